/- The data of the reference's net in memory. -/
import Derived.Test.YtblcdhcjamedgaaLkD
namespace Go.Proofs.Ytblcdhcjamedgaa.SL
open Go Go.RowKit

def RefEnc (p : Pkt) : List Value := [.int .i64 p.f, .int .i64 p.t, .string ⟨p.bs.toArray⟩, .bool p.turned]
def RefT : Ty Pkt := { e := 36, sz := 4, bytes := 40, enc := RefEnc, len := fun _ => rfl, one := fun x u h => by simp [RefEnc] at h; rcases h with rfl | rfl | rfl | rfl <;> rfl, pos := by decide }
def RefP (g : Nat) (room : Int) (ps : List Pkt) (sent : Int) : HP := fun h => ∃ a cap, stars [pt g (.cells #[.slice (sl a) ps.length cap, .int .i64 room, .int .i64 sent] 29 (0, 0)), Row RefT a cap ps] h
theorem RefP_opens (g : Nat) (room : Int) (ps : List Pkt) (sent : Int) : Opens (RefP g room ps sent) fun l => ∃ a cap, l = [pt g (.cells #[.slice (sl a) ps.length cap, .int .i64 room, .int .i64 sent] 29 (0, 0)), Row RefT a cap ps] := by
  rintro h ⟨a, cap, hs⟩
  exact ⟨_, ⟨a, cap, rfl⟩, hs⟩
theorem RefP_close {g : Nat} {room : Int} {a : Option Nat} {cap m : Nat} {ps : List Pkt} {sent : Int} (hm : m = ps.length) :
    Imp [pt g (.cells #[.slice (sl a) m cap, .int .i64 room, .int .i64 sent] 29 (0, 0)), Row RefT a cap ps] [RefP g room ps sent] := fun h hh => by
  subst hm; exact ⟨h, fun _ _ x => x, sep_emp ⟨a, cap, hh⟩⟩
theorem U8_flat (bs : List UInt8) : U8.flat bs = bs.map fun b => Value.int .u8 b.toNat := by
  unfold Ty.flat U8
  induction bs with
  | nil => rfl
  | cons x l ih => rw [List.flatMap_cons, ih]; rfl
theorem reads_u8 {s : World} {H : List HP} {p : Option Addr} {bs : List UInt8} (h : Reads s H p (U8.flat bs)) : Reads s H p (bs.map fun b => Value.int .u8 b.toNat) := by rwa [U8_flat] at h
end Go.Proofs.Ytblcdhcjamedgaa.SL
