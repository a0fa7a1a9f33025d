/- cut, push on the whole ring. -/
import Derived.Test.Ytgakbdofjlhoeaas21LrW
namespace Go.Proofs.Ytgakbdofjlhoeaa.SL
open Go Go.RowKit

theorem seg_mid {A B : List Th} {t : Th} : Ent [SegP none (A ++ t :: B) none] [SegP none A (some t.b), ThP t (ltO none A) (hdO B none), SegP (some t.b) B none] := fun h hh => by
  have := SegP_split (B := t :: B) h hh
  exact sep_mono (fun _ y => y) (fun q y => SegP_cons q y) this
theorem seg_back {A B : List Th} {t : Th} : Ent [SegP none A (some t.b), ThP t (ltO none A) (hdO B none), SegP (some t.b) B none] [SegP none (A ++ t :: B) none] := fun h hh =>
  SegP_join (B := t :: B) h (sep_mono (fun _ y => y) (fun q y => SegP_push q y) hh)
theorem ltO_last {p : Option Nat} {A : List Th} {u : Th} : ltO p (A ++ [u]) = some u.b := by rw [ltO_app]; rfl
theorem ltO_more {p q : Option Nat} {y : Th} {B : List Th} : ltO p (y :: B) = ltO q (y :: B) := rfl
theorem hdO_any {p q : Option Nat} {A : List Th} {u : Th} : hdO (A ++ [u]) p = hdO (A ++ [u]) q := by cases A <;> rfl

theorem cut_any (g : Nat) (A B : List Th) (t : Th) (sum sum' room kept : Int) (mv : Value) (hs : sum - t.it.size = sum') (hr : -9223372036854775808 ≤ sum' ∧ sum' ≤ 9223372036854775807) :
    Spec Try.prog 53 #[.pointer (some ⟨g, 0, none⟩), .pointer (some ⟨t.b, 0, none⟩)] [CacheC g (hdO (A ++ t :: B) none) (ltO none (A ++ t :: B)) sum room kept mv, SegP none (A ++ t :: B) none]
      fun v C => v = .tuple #[] ∧ C = [CacheC g (hdO (A ++ B) none) (ltO none (A ++ B)) sum' room kept mv, SegP none (A ++ B) none, ThP t none none] := by
  rcases List.eq_nil_or_concat A with rfl | ⟨A', u, rfl⟩
  · cases B with
    | nil =>
      refine (cut00 g (some t.b) (some t.b) sum sum' room kept mv t hs hr).conv (F := []) (.swap (C := [SegP none ([] ++ t :: []) none]) (.k (e := (Imp.refl _))) seg_mid.imp (.k (e := (.k (e := skk))))) ?_
      rintro _ _ ⟨rfl, rfl⟩
      exact ⟨_, ⟨rfl, rfl⟩, .trans (SegP_nil (p := none) (nx := none)).imp_add (.k (e := (.k (e := (.k (e := (Imp.refl _)))))))⟩
    | cons y B' =>
      refine (cut01 g (some t.b) (ltO (some t.b) (y :: B')) sum sum' room kept mv t y (hdO B' none) hs hr).conv (F := [SegP (some y.b) B' none])
        (.swap (C := [SegP none ([] ++ t :: y :: B') none]) (.k (e := (Imp.refl _))) seg_mid.imp (.swap (C := [SegP (some t.b) (y :: B') none]) (.k (e := (Imp.refl _))) SegP_cons.imp (.k (e := (.k (e := (.k (e := (.k (e := skk)))))))))) ?_
      rintro _ _ ⟨rfl, rfl⟩
      exact ⟨_, ⟨rfl, rfl⟩, .swap (C := [ThP y none (hdO B' none), SegP (some y.b) B' none]) (.k (e := (.k (e := (Imp.refl _))))) SegP_push.imp (.k (e := (.k (e := (.k (e := (Imp.refl _)))))))⟩
  · rw [List.concat_eq_append]
    cases B with
    | nil =>
      have e1 : hdO (A' ++ [u] ++ [t]) none = hdO (A' ++ [u] ++ []) none := by rw [List.append_nil]; cases A' <;> rfl
      have e2 : ltO none (A' ++ [u] ++ [t]) = some t.b := ltO_last
      have e3 : ltO none (A' ++ [u] ++ []) = some u.b := by rw [List.append_nil]; exact ltO_last
      rw [e1, e2, e3]
      refine (cut10 g (hdO (A' ++ [u] ++ []) none) (some t.b) sum sum' room kept mv t u (ltO none A') hs hr).conv (F := [SegP none A' (some u.b)])
        (.swap (C := [SegP none (A' ++ [u] ++ t :: []) none]) (.k (e := (Imp.refl _))) seg_mid.imp (.swap (C := [SegP none (A' ++ [u]) (some t.b)]) (.k (e := (Imp.refl _))) SegP_last.imp ?_)) ?_
      · rw [ltO_last]; exact (.k (e := (.k (e := (.k (e := (.k (e := skk))))))))
      rintro _ _ ⟨rfl, rfl⟩
      refine ⟨_, ⟨rfl, rfl⟩, .swap (C := [SegP none A' (some u.b), ThP u (ltO none A') none]) (.k (e := (.k (e := (Imp.refl _))))) SegP_addlast.imp ?_⟩
      rw [List.append_nil]
      exact (.k (e := (.k (e := (.k (e := (Imp.refl _)))))))
    | cons y B' =>
      have e1 : hdO (A' ++ [u] ++ t :: y :: B') none = hdO (A' ++ [u] ++ y :: B') none := by cases A' <;> rfl
      have e2 : ltO none (A' ++ [u] ++ t :: y :: B') = ltO none (A' ++ [u] ++ y :: B') := by rw [ltO_app, ltO_app none (A' ++ [u])]; rfl
      rw [e1, e2]
      refine (cut11 g (hdO (A' ++ [u] ++ y :: B') none) (ltO none (A' ++ [u] ++ y :: B')) sum sum' room kept mv t u (ltO none A') y (hdO B' none) hs hr).conv (F := [SegP none A' (some u.b), SegP (some y.b) B' none])
        (.swap (C := [SegP none (A' ++ [u] ++ t :: y :: B') none]) (.k (e := (Imp.refl _))) seg_mid.imp (.swap (C := [SegP none (A' ++ [u]) (some t.b)]) (.k (e := (Imp.refl _))) SegP_last.imp (.swap (C := [SegP (some t.b) (y :: B') none]) (.k (e := (Imp.refl _))) SegP_cons.imp ?_))) ?_
      · rw [ltO_last]; exact (.k (e := (.k (e := (.k (e := (.k (e := (.k (e := (.k (e := skk))))))))))))
      rintro _ _ ⟨rfl, rfl⟩
      refine ⟨_, ⟨rfl, rfl⟩, .swap (C := [SegP none A' (some u.b), ThP u (ltO none A') (some y.b)]) (.k (e := (.k (e := (Imp.refl _))))) SegP_addlast.imp (.swap (C := [ThP y (some u.b) (hdO B' none), SegP (some y.b) B' none]) (.k (e := (.k (e := (Imp.refl _))))) SegP_push.imp ?_)⟩
      have := (SegP_join (A := A' ++ [u]) (B := y :: B') (p := none) (nx := none)).imp
      rw [ltO_last] at this
      exact .swap (C := [SegP none (A' ++ [u]) (some y.b), SegP (some u.b) (y :: B') none]) (.k (e := (.k (e := (Imp.refl _))))) this (.k (e := (.k (e := (.k (e := (Imp.refl _)))))))

theorem push_any (g : Nat) (L : List Th) (t : Th) (o : Option Nat) (sum sum' room kept : Int) (mv : Value) (hs : sum + t.it.size = sum') (hr : -9223372036854775808 ≤ sum' ∧ sum' ≤ 9223372036854775807) :
    Spec Try.prog 54 #[.pointer (some ⟨g, 0, none⟩), .pointer (some ⟨t.b, 0, none⟩)] [CacheC g (hdO L none) (ltO none L) sum room kept mv, SegP none L none, ThP t none o]
      fun v C => v = .tuple #[] ∧ C = [CacheC g (hdO (t :: L) none) (ltO none (t :: L)) sum' room kept mv, SegP none (t :: L) none] := by
  cases L with
  | nil =>
    refine (push0 g none o sum sum' room kept mv t hs hr).conv (F := [SegP (some t.b) [] none]) (.trans (SegP_nil (p := some t.b) (nx := none)).imp_add (.k (e := (.k (e := (.k (e := skk))))))) ?_
    rintro _ _ ⟨rfl, rfl⟩
    exact ⟨_, ⟨rfl, rfl⟩, .swap (C := [ThP t none none, SegP (some t.b) [] none]) (D := [SegP none [t] none]) (.k (e := (.k (e := (Imp.refl _))))) (SegP_push (l := []) (nx := none)).imp (.k (e := (.k (e := (Imp.refl _)))))⟩
  | cons y B =>
    refine (push1 g (ltO none (y :: B)) o sum sum' room kept mv t y (hdO B none) hs hr).conv (F := [SegP (some y.b) B none]) (.swap (C := [SegP none (y :: B) none]) (.k (e := (Imp.refl _))) SegP_cons.imp (.k (e := (.k (e := (.k (e := (.k (e := (Imp.refl _)))))))))) ?_
    rintro _ _ ⟨rfl, rfl⟩
    exact ⟨_, ⟨rfl, rfl⟩, .swap (C := [ThP y (some t.b) (hdO B none), SegP (some y.b) B none]) (.k (e := (.k (e := (Imp.refl _))))) SegP_push.imp (.swap (C := [ThP t none (some y.b), SegP (some t.b) (y :: B) none]) (D := [SegP none (t :: y :: B) none]) (.k (e := (.k (e := (Imp.refl _))))) (SegP_push (l := y :: B) (nx := none)).imp (.k (e := (.k (e := (Imp.refl _))))))⟩
end Go.Proofs.Ytgakbdofjlhoeaa.SL
