/- The law of package link: its data, and the contracts in one form for both sides. -/
import Derived.Test.YtblcdhcjamedgaaLkW
import Derived.Test.YtblcdhcjamedgaaRfW
import Derived.Test.YtblcdhcjamedgaaSLH
namespace Go.Proofs.Ytblcdhcjamedgaa.SL
open Go Go.RowKit

def sendP (room : Int) (ps : List Pkt) (p : Pkt) : List Pkt := if (ps.length : Int) < room then ps ++ [p] else ps
def sendC (room : Int) (ps : List Pkt) (c : Int) : Int := if (ps.length : Int) < room then c + 1 else c
theorem sendP_len (room : Int) (ps : List Pkt) (p : Pkt) : (sendP room ps p).length ≤ ps.length + 1 := by unfold sendP; split <;> simp
theorem sendC_le (room : Int) (ps : List Pkt) (c : Int) : c ≤ sendC room ps c ∧ sendC room ps c ≤ c + 1 := by unfold sendC; split <;> omega
theorem sendP_all {room : Int} {ps : List Pkt} {p : Pkt} {q : Pkt → Prop} (h : ∀ x ∈ ps, q x) (hp : q p) : ∀ x ∈ sendP room ps p, q x := by
  unfold sendP
  split
  · intro x hx
    rcases List.mem_append.1 hx with h1 | h1
    · exact h x h1
    · simp at h1; subst h1; exact hp
  · exact h

theorem Send_two (g : Nat) (room : Int) (ps : List Pkt) (sent f t : Int) (a0 : Option Nat) (cap0 : Nat) (bs : List UInt8) (hb : bs.length ≤ 1000000) (hp : ps.length ≤ 100000) (hs0 : 0 ≤ sent) (hs1 : sent ≤ 100000) :
    Spec Try.prog 6 #[.pointer (some ⟨g, 0, none⟩), .int .i64 f, .int .i64 t, .slice (sl a0) bs.length cap0] [NetP g room ps sent, Row U8 a0 cap0 bs]
      (fun v C => v = .bool (decide ((ps.length : Int) < room)) ∧ C = [NetP g room (sendP room ps ⟨f, t, bs, false⟩) (sendC room ps sent), Row U8 a0 cap0 bs]) :=
  (Send_any g room ps sent f t a0 cap0 bs hb hp hs0 hs1).mono fun v C ⟨h1, h2⟩ => ⟨h1, by rw [h2]; unfold sendP sendC; split <;> rfl⟩
theorem RSend_two (g : Nat) (room : Int) (ps : List Pkt) (sent : Int) (p : Pkt) (hp : ps.length ≤ 100000) (hs0 : 0 ≤ sent) (hs1 : sent ≤ 100000) :
    Spec Try.prog 7 #[.pointer (some ⟨g, 0, none⟩), .agg #[.int .i64 p.f, .int .i64 p.t, .string ⟨p.bs.toArray⟩, .bool p.turned]] [RefP g room ps sent]
      (fun v C => v = .bool (decide ((ps.length : Int) < room)) ∧ C = [RefP g room (sendP room ps p) (sendC room ps sent)]) :=
  (RSend_any g room ps sent p hp hs0 hs1).mono fun v C ⟨h1, h2⟩ => ⟨h1, by rw [h2]; unfold sendP sendC; split <;> rfl⟩
theorem Double_two (g : Nat) (room : Int) (ps : List Pkt) (sent : Int) (k : Nat) (p : Pkt) (hk : ps[k]? = some p) (hbs : ∀ p ∈ ps, p.bs.length ≤ 1000000) (hp : ps.length ≤ 100000) :
    Spec Try.prog 13 #[.pointer (some ⟨g, 0, none⟩), .int .i64 k] [NetP g room ps sent] (fun v C => v = .bool (decide ((ps.length : Int) < room)) ∧ C = [NetP g room (sendP room ps p) sent]) :=
  (Double_yes g room ps sent k p hk hbs hp).mono fun v C ⟨h1, h2⟩ => ⟨h1, by rw [h2]; unfold sendP; split <;> rfl⟩
theorem RDouble_two (g : Nat) (room : Int) (ps : List Pkt) (sent : Int) (k : Nat) (p : Pkt) (hk : ps[k]? = some p) (hp : ps.length ≤ 100000) :
    Spec Try.prog 14 #[.pointer (some ⟨g, 0, none⟩), .int .i64 k] [RefP g room ps sent] (fun v C => v = .bool (decide ((ps.length : Int) < room)) ∧ C = [RefP g room (sendP room ps p) sent]) :=
  (RDouble_yes g room ps sent k p hk hp).mono fun v C ⟨h1, h2⟩ => ⟨h1, by rw [h2]; unfold sendP; split <;> rfl⟩

theorem turnAt_len (ps : List Pkt) (i j : Int) (d : UInt8) : ((turnAt ps i j d).getD ps).length = ps.length := by
  unfold turnAt
  split
  · split
    · rfl
    · split
      · simp
      · rfl
  · rfl
theorem turnAt_all {ps : List Pkt} {i j : Int} {d : UInt8} {m : Nat} (h : ∀ x ∈ ps, x.bs.length ≤ m) : ∀ x ∈ (turnAt ps i j d).getD ps, x.bs.length ≤ m := by
  unfold turnAt
  split
  · split
    · exact h
    · rename_i p hp
      split
      · intro x hx
        simp only [Option.getD_some] at hx
        rcases List.mem_or_eq_of_mem_set hx with h1 | h1
        · exact h x h1
        · subst h1; simpa using h p (List.mem_of_getElem? hp)
      · exact h
  · exact h

/-- An op of the script, with what its bytes are. -/
structure OpG where
  k : Int
  fr : Int
  to : Int
  i : Int
  j : Int
  c : UInt8
  B : Option Addr
  cap : Nat
  bs : List UInt8

def OpG.enc (o : OpG) : List Value := [.int .i64 o.k, .int .i64 o.fr, .int .i64 o.to, .int .i64 o.i, .int .i64 o.j, .int .u8 o.c.toNat, .slice o.B o.bs.length o.cap]

def ReadsAt (W : World) (p : Option Addr) (vs : List Value) : Prop := match p with
  | some a => ∀ j u, vs[j]? = some u → W.cell? (a.add j) = some u
  | none => vs = []

/-- The script as it lies in the world W. -/
def ScriptAt (W : World) (a : Option Addr) (ops : List OpG) : Prop := ∀ i o, ops[i]? = some o → ∃ p, a = some p ∧ (∀ j v, o.enc[j]? = some v → W.cell? ((p.add (i * 7)).add j) = some v) ∧ ReadsAt W o.B (U8.flat o.bs)

theorem RHas_t (g : Nat) (room : Int) (ps : List Pkt) (sent : Int) (i : Int) (h : 0 ≤ i ∧ i < (ps.length : Int)) : Spec Try.prog 9 #[.pointer (some ⟨g, 0, none⟩), .int .i64 i] [RefP g room ps sent] (fun v C => v = .bool true ∧ C = [RefP g room ps sent]) :=
  (RHas_any g room ps sent i).mono fun v C ⟨h1, h2⟩ => ⟨by rw [h1, decide_eq_true h], h2⟩
theorem RHas_f (g : Nat) (room : Int) (ps : List Pkt) (sent : Int) (i : Int) (h : ¬ (0 ≤ i ∧ i < (ps.length : Int))) : Spec Try.prog 9 #[.pointer (some ⟨g, 0, none⟩), .int .i64 i] [RefP g room ps sent] (fun v C => v = .bool false ∧ C = [RefP g room ps sent]) :=
  (RHas_any g room ps sent i).mono fun v C ⟨h1, h2⟩ => ⟨by rw [h1, decide_eq_false h], h2⟩
theorem RefP_new (g : Nat) (room : Int) (R : List HP) : Imp (pt g (.cells #[.slice none 0 0, .int .i64 room, .int .i64 0] 29 (0, 0)) :: R) (RefP g room [] 0 :: R) := fun h hh => by
  refine ⟨h, fun _ _ x => x, sep_mono (fun q hq => ?_) (fun _ x => x) hh⟩
  exact ⟨none, 0, sep_mono (fun _ x => x) (fun q x => Row_none RefT q x) (sep_emp hq)⟩
end Go.Proofs.Ytblcdhcjamedgaa.SL
