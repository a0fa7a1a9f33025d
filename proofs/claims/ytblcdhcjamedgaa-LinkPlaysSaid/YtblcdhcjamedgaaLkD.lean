/- The data of package link: what a net is in memory. -/
import Derived.Test.YtblcdhcjamedgaaSLF
import Derived.Test.YtblcdhcjamedgaaFacts
namespace Go.Proofs.Ytblcdhcjamedgaa.SL
open Go Go.RowKit

def U8 : Ty UInt8 := { e := 5, sz := 1, bytes := 1, enc := fun b => [.int .u8 b.toNat], len := fun _ => rfl, one := fun x u h => by simp at h; subst h; rfl, pos := by decide }

structure Pkt where
  f : Int
  t : Int
  bs : List UInt8
  turned : Bool

structure HeldG where
  f : Int
  t : Int
  a : Option Nat
  cap : Nat
  bs : List UInt8
  turned : Bool

def HeldG.pk (x : HeldG) : Pkt := ⟨x.f, x.t, x.bs, x.turned⟩
def HeldG.enc (x : HeldG) : List Value := [.int .i64 x.f, .int .i64 x.t, .slice (sl x.a) x.bs.length x.cap, .bool x.turned]
def HeldT : Ty HeldG := { e := 60, sz := 4, bytes := 48, enc := HeldG.enc, len := fun _ => rfl, one := fun x u h => by simp [HeldG.enc] at h; rcases h with rfl | rfl | rfl | rfl <;> rfl, pos := by decide }

def All {α : Type} (F : α → HP) (L : List α) : HP := stars (L.map F)
def BytesOf (x : HeldG) : HP := Row U8 x.a x.cap x.bs

def NetRaw (g : Nat) (room : Int) (a : Option Nat) (cap : Nat) (L : List HeldG) (sent : Int) : List HP :=
  [pt g (.cells #[.int .i64 room, .slice (sl a) L.length cap, .int .i64 sent] 57 (0, 0)), Row HeldT a cap L, All BytesOf L]
def NetP (g : Nat) (room : Int) (ps : List Pkt) (sent : Int) : HP := fun h => ∃ a cap L, ps = L.map HeldG.pk ∧ stars (NetRaw g room a cap L sent) h

theorem NetP_opens (g : Nat) (room : Int) (ps : List Pkt) (sent : Int) : Opens (NetP g room ps sent) fun l => ∃ a cap L, ps = L.map HeldG.pk ∧ l = NetRaw g room a cap L sent := by
  rintro h ⟨a, cap, L, e, hs⟩
  exact ⟨_, ⟨a, cap, L, e, rfl⟩, hs⟩
theorem NetP_close {g : Nat} {room : Int} {a : Option Nat} {cap : Nat} {L : List HeldG} {sent : Int} : Imp (NetRaw g room a cap L sent) [NetP g room (L.map HeldG.pk) sent] := fun h hh => ⟨h, fun _ _ x => x, sep_emp ⟨a, cap, L, rfl, hh⟩⟩

theorem All_nil {α : Type} {F : α → HP} : Ent [] [All F []] := fun _ h => sep_emp (p := All F []) h
theorem NetP_new (g : Nat) (room : Int) (R : List HP) : Imp (pt g (.cells #[.int .i64 room, .slice none 0 0, .int .i64 0] 57 (0, 0)) :: R) ([NetP g room [] 0] ++ R) := fun h hh => by
  refine ⟨h, fun _ _ x => x, sep_mono (fun q hq => ?_) (fun _ x => x) hh⟩
  have h1 : stars ([] ++ []) (fun _ => none : Ph) := fun _ => rfl
  exact ⟨none, 0, [], rfl, sep_mono (fun _ x => x) (fun q x => by
    have := Row_none HeldT q x
    exact sep_mono (fun _ y => y) (fun q y => All_nil q y) this) (sep_emp hq)⟩

/-- One of several chunks of a kind, taken out and put back. -/
theorem All_out {α : Type} {F : α → HP} {L : List α} {i : Nat} {x : α} (h : L[i]? = some x) : Ent [All F L] [F x, All F (L.eraseIdx i)] := by
  intro p hp
  have hp' : stars (L.map F) p := sep_emp_out hp
  clear hp
  induction L generalizing i p with
  | nil => simp at h
  | cons y l ih =>
    cases i with
    | zero =>
      simp at h; subst h
      exact sep_mono (fun _ z => z) (fun _ z => sep_emp z) hp'
    | succ i =>
      have h' : l[i]? = some x := by simpa using h
      have h2 := sep_mono (fun _ z => z) (fun q z => ih h' q z) hp'
      have h3 := sep_swap h2
      refine sep_mono (fun _ z => z) (fun q z => ?_) h3
      have z1 : sep (F y) (stars [All F (l.eraseIdx i)]) q := z
      exact sep_emp (sep_mono (fun _ u => u) (fun _ u => sep_emp_out u) z1)
theorem All_in {α : Type} {F : α → HP} {L : List α} {i : Nat} {x : α} (h : i < L.length) : Ent [F x, All F (L.eraseIdx i)] [All F (L.set i x)] := by
  intro p hp
  have hp' : sep (F x) (stars ((L.eraseIdx i).map F)) p := sep_mono (fun _ z => z) (fun _ z => sep_emp_out z) hp
  clear hp
  refine sep_emp ?_
  show stars ((L.set i x).map F) p
  induction L generalizing i p with
  | nil => simp at h
  | cons y l ih =>
    cases i with
    | zero => exact hp'
    | succ i =>
      have h' : i < l.length := by simpa using h
      have h2 : sep (F x) (sep (F y) (stars ((l.eraseIdx i).map F))) p := hp'
      exact sep_mono (fun _ z => z) (fun q z => ih h' q z) (sep_swap h2)
theorem All_back {α : Type} {F : α → HP} {L : List α} {i : Nat} {x : α} (h : L[i]? = some x) : Ent [F x, All F (L.eraseIdx i)] [All F L] := by
  have hi := (List.getElem?_eq_some_iff.1 h).1
  have := All_in (F := F) (x := x) hi
  rwa [show L.set i x = L from by rw [← (List.getElem?_eq_some_iff.1 h).2]; simp] at this
theorem All_add {α : Type} {F : α → HP} {L : List α} {x : α} : Ent [F x, All F L] [All F (L ++ [x])] := by
  intro p hp
  have hp' : sep (F x) (stars (L.map F)) p := sep_mono (fun _ z => z) (fun _ z => sep_emp_out z) hp
  refine sep_emp ?_
  show stars ((L ++ [x]).map F) p
  rw [List.map_append, stars_append]
  exact sep_comm (sep_mono (fun _ z => sep_emp z) (fun _ z => z) hp')

theorem NetP_add {g : Nat} {room : Int} {a : Option Nat} {cap : Nat} {L : List HeldG} {sent : Int} {x : HeldG} :
    Imp [pt g (.cells #[.int .i64 room, .slice (sl a) (L ++ [x]).length cap, .int .i64 sent] 57 (0, 0)), Row HeldT a cap (L ++ [x]), BytesOf x, All BytesOf L] [NetP g room (L.map HeldG.pk ++ [x.pk]) sent] := fun h hh => by
  refine ⟨h, fun _ _ y => y, sep_emp ⟨a, cap, L ++ [x], by simp, ?_⟩⟩
  exact sep_mono (fun _ y => y) (fun q y => sep_mono (fun _ y => y) (fun q y => All_add q y) y) hh
theorem All_drop {α : Type} {F : α → HP} {L : List α} {i : Nat} {x : α} (h : L[i]? = some x) : Imp [All F L] [All F (L.take i ++ L.drop (i + 1))] := by
  have e := List.eraseIdx_eq_take_drop_succ L i
  rw [← e]
  exact (All_out h).imp.trans (Imp.skip (Imp.refl _))

theorem NetP_close2 {g : Nat} {room : Int} {a : Option Nat} {cap m : Nat} {L : List HeldG} {sent : Int} (hm : m = L.length) :
    Imp [pt g (.cells #[.int .i64 room, .slice (sl a) m cap, .int .i64 sent] 57 (0, 0)), Row HeldT a cap L, All BytesOf L] [NetP g room (L.map HeldG.pk) sent] := by
  subst hm; exact NetP_close

/-- What Turn does. -/
def turnAt (ps : List Pkt) (i j : Int) (d : UInt8) : Option (List Pkt) :=
  if 0 ≤ i ∧ 0 ≤ j then
    match ps[i.toNat]? with
    | none => none
    | some p => if j < p.bs.length ∧ p.turned = false then some (ps.set i.toNat ⟨p.f, p.t, p.bs.set j.toNat (p.bs.getD j.toNat 0 ^^^ d), true⟩) else none
  else none

theorem turnAt_out {ps : List Pkt} {i j : Int} {d : UInt8} (h : i < 0 ∨ (ps.length : Int) ≤ i ∨ j < 0) : turnAt ps i j d = none := by
  unfold turnAt
  split
  · rename_i h2
    have : ps.length ≤ i.toNat := by omega
    rw [List.getElem?_eq_none this]
  · rfl
theorem turnAt_no {ps : List Pkt} {k : Nat} {j : Int} {d : UInt8} {p : Pkt} (hk : ps[k]? = some p) (h : j < 0 ∨ (p.bs.length : Int) ≤ j ∨ p.turned = true) : turnAt ps k j d = none := by
  unfold turnAt
  split
  · simp only [Int.toNat_natCast, hk]
    rw [if_neg]
    rintro ⟨h1, h2⟩
    rcases h with h | h | h
    · omega
    · omega
    · rw [h] at h2; cases h2
  · rfl
theorem turnAt_yes {ps : List Pkt} {k j : Nat} {d c : UInt8} {p : Pkt} (hk : ps[k]? = some p) (hj : p.bs[j]? = some c) (h : p.turned = false) :
    turnAt ps k j d = some (ps.set k ⟨p.f, p.t, p.bs.set j (c ^^^ d), true⟩) := by
  unfold turnAt
  have hlt := (List.getElem?_eq_some_iff.1 hj).1
  rw [if_pos (by omega)]
  simp only [Int.toNat_natCast, hk]
  rw [if_pos ⟨by omega, h⟩]
  have : p.bs.getD j 0 = c := by rw [List.getD_eq_getElem?_getD, hj]; rfl
  rw [this]

theorem xor8 (c d : UInt8) : IntKind.u8.wrap ((BitVec.ofInt IntKind.u8.bits (c.toNat : Int) ^^^ BitVec.ofInt IntKind.u8.bits (d.toNat : Int)).toNat : Int) = ((c ^^^ d).toNat : Int) := by
  have e : ∀ x : UInt8, BitVec.ofInt IntKind.u8.bits (x.toNat : Int) = x.toBitVec := fun x => by
    apply BitVec.eq_of_toNat_eq
    show (BitVec.ofInt 8 (x.toNat : Int)).toNat = x.toBitVec.toNat
    have h1 := x.toBitVec.isLt
    have h2 : x.toNat = x.toBitVec.toNat := rfl
    rw [BitVec.toNat_ofInt, h2]
    omega
  have h4 : (c ^^^ d).toNat < 256 := (c ^^^ d).toBitVec.isLt
  have hw : IntKind.u8.wrap ((c ^^^ d).toNat : Int) = ((c ^^^ d).toNat : Int) := by
    simp only [IntKind.wrap, IntKind.signed, IntKind.bits, Bool.false_and, Bool.false_eq_true, if_false]
    omega
  rw [e, e]
  exact hw

theorem Op_xor8 {P : Program} {s : World} {n : Nat} {E : List (Nat × Value)} {H : List HP} {ty : TypeId} {x y : Operand} {t t' : TypeId} {c d : UInt8} (hx : ev E x = some (.int .u8 c.toNat)) (hy : ev E y = some (.int .u8 d.toNat)) :
    OpQ P s n E H (.binOp .xor t x y t') ty (.int .u8 ((c ^^^ d).toNat : Nat)) := by
  have := Op_xor (P := P) (s := s) (n := n) (H := H) (ty := ty) (t := t) (t' := t') hx hy
  rwa [xor8] at this

theorem All_filter {α : Type} {F : α → HP} (q : α → Bool) : ∀ (L : List α), Imp [All F L] [All F (L.filter q)]
  | [] => Imp.refl _
  | x :: l => by
    have ih := All_filter (F := F) q l
    intro h hh
    have h1 : stars (F x :: [All F l]) h := by
      have := sep_emp_out hh
      exact sep_mono (fun _ y => y) (fun _ y => sep_emp y) this
    rw [List.filter_cons]
    split
    · obtain ⟨h', l', e⟩ := Imp.sep_mono (p := F x) (q := F x) (fun _ y => y) ih h h1
      exact ⟨h', l', sep_emp (sep_mono (fun _ y => y) (fun _ y => sep_emp_out y) e)⟩
    · exact Imp.skip ih h h1
theorem filter_pk (L : List HeldG) (who : Int) : (L.map HeldG.pk).filter (fun p => decide (p.t ≠ who)) = (L.filter (fun x => decide (x.t ≠ who))).map HeldG.pk := by
  rw [List.filter_map]; rfl
end Go.Proofs.Ytblcdhcjamedgaa.SL
