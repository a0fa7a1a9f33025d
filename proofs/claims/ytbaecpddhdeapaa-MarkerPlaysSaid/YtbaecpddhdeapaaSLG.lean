/- Regions that draw their order: one walk, in which what was read ahead of a change is read again behind it. -/
import Derived.Test.YtbaecpddhdeapaaSLE
import Derived.OrdersHeld
import Derived.StillTail
namespace Go.Proofs.Ytbaecpddhdeapaa.SL
open Go Go.RowKit

section any
variable {P : Program} {ops : Array Oper} {Q : Exit → Act → World → Prop} {md : Region.Mode}

/-- What an operation waits for, at once and in the end. -/
def preds (md : Region.Mode) (ops : Array Oper) (j : Nat) : List Nat :=
  match ops[j]? with
  | some o => (o.after.toList.filter fun e => Region.binds md e).map (·.on)
  | none => []

inductive Dep (md : Region.Mode) (ops : Array Oper) : Nat → Nat → Prop
  | one {j i : Nat} (h : i ∈ preds md ops j) : Dep md ops j i
  | more {j k i : Nat} (h : k ∈ preds md ops j) (r : Dep md ops k i) : Dep md ops j i

def anc (md : Region.Mode) (ops : Array Oper) : Nat → List Nat → List Nat → List Nat
  | 0, _, seen => seen
  | _ + 1, [], seen => seen
  | f + 1, j :: todo, seen => if seen.contains j then anc md ops f todo seen else anc md ops f (preds md ops j ++ todo) (j :: seen)

theorem Dep.trans {md : Region.Mode} {ops : Array Oper} {a b c : Nat} (h : Dep md ops a b) (h2 : Dep md ops b c) : Dep md ops a c := by
  induction h with
  | one h => exact .more h h2
  | more h _ ih => exact .more h (ih h2)

theorem anc_sound {md : Region.Mode} {ops : Array Oper} {j : Nat} : ∀ (f : Nat) (todo seen : List Nat), (∀ k ∈ todo, Dep md ops j k) → (∀ k ∈ seen, Dep md ops j k) → ∀ k ∈ anc md ops f todo seen, Dep md ops j k
  | 0, _, _, _, hs => hs
  | _ + 1, [], _, _, hs => hs
  | f + 1, x :: todo, seen, ht, hs => by
    unfold anc
    split
    · exact anc_sound f todo seen (fun k hk => ht k (List.mem_cons_of_mem _ hk)) hs
    · have hx := ht x (List.mem_cons_self ..)
      refine anc_sound f _ _ (fun k hk => ?_) (fun k hk => ?_)
      · rcases List.mem_append.1 hk with h | h
        · exact hx.trans (.one h)
        · exact ht k (List.mem_cons_of_mem _ h)
      · rcases List.mem_cons.1 hk with rfl | h
        · exact hx
        · exact hs k h

/-- Of the readings 'all' those outside 'keep' are done with when operation j comes up. -/
def dropOK (md : Region.Mode) (ops : Array Oper) (j : Nat) (all keep : List Nat) : Bool :=
  let a := anc md ops 4000 (preds md ops j) []
  all.all fun k => keep.contains k || a.contains k
theorem dropOK_spec {md : Region.Mode} {ops : Array Oper} {j : Nat} {all keep : List Nat} (h : dropOK md ops j all keep = true) : ∀ k ∈ all, k ∈ keep ∨ Dep md ops j k := by
  intro k hk
  simp only [dropOK, List.all_eq_true, Bool.or_eq_true] at h
  rcases h k hk with x | x
  · exact .inl (by simpa using x)
  · exact .inr (anc_sound 4000 (preds md ops j) [] (fun k hk => .one hk) (fun k hk => by cases hk) k (by simpa using x))

abbrev Pend := List (Nat × (World → Prop))

/-- Whoever has come up, all that he waits for has. -/
def Closed (md : Region.Mode) (ops : Array Oper) (listed : Array Bool) : Prop := ∀ k i, listed.getD k false = true → i ∈ preds md ops k → listed.getD i false = true

theorem preds_mem {k i : Nat} (h : i ∈ preds md ops k) : ∃ o, ops[k]? = some o ∧ ∃ e ∈ o.after, Region.binds md e = true ∧ e.on = i := by
  unfold preds at h
  cases ho : ops[k]? with
  | none => simp [ho] at h
  | some o =>
    simp only [ho, List.mem_map, List.mem_filter] at h
    obtain ⟨e, ⟨h1, h2⟩, h3⟩ := h
    exact ⟨o, rfl, e, by simpa using h1, h2, h3⟩

theorem getD_set' {listed : Array Bool} {i k : Nat} : (listed.setIfInBounds i true).getD k false = true → k = i ∨ listed.getD k false = true := by
  intro h
  by_cases hk : i = k
  · exact .inl hk.symm
  · rw [getD_set_ne false hk] at h; exact .inr h

theorem Closed.set {listed : Array Bool} {i : Nat} (hc : Closed md ops listed) (hr : i ∈ Region.ready md ops listed) : Closed md ops (listed.setIfInBounds i true) := by
  intro k j hk hj
  obtain ⟨o, ho, e, he, hb, rfl⟩ := preds_mem hj
  rcases getD_set' hk with rfl | hk
  · obtain ⟨_, o', ho', hall⟩ := mem_ready.1 hr
    rw [ho] at ho'; cases ho'
    exact getD_set_true (hall e he hb)
  · exact getD_set_true (hc k e.on hk hj)

theorem Closed.dep {listed : Array Bool} (hc : Closed md ops listed) {j i : Nat} (hd : Dep md ops j i) : listed.getD j false = true → listed.getD i false = true := by
  induction hd with
  | one h => exact fun hj => hc _ _ hj h
  | more h _ ih => exact fun hj => ih (hc _ _ hj h)

theorem Closed.ready {listed : Array Bool} (hc : Closed md ops listed) {j i : Nat} (hj : j ∈ Region.ready md ops listed) (hi : listed.getD i false = false) : ¬ Dep md ops j i := by
  intro hd
  obtain ⟨_, o, ho, hall⟩ := mem_ready.1 hj
  have one : ∀ k, k ∈ preds md ops j → listed.getD k false = true := fun k hk => by
    obtain ⟨o', ho', e, he, hb, rfl⟩ := preds_mem hk
    rw [ho] at ho'; cases ho'
    exact hall e he hb
  cases hd with
  | one h => rw [one _ h] at hi; cases hi
  | more h r => rw [hc.dep r (one _ h)] at hi; cases hi

theorem ready_unlisted {listed : Array Bool} {i : Nat} (hr : i ∈ Region.ready md ops listed) : listed.getD i false = false := by
  have h0 := (mem_ready.1 hr).1
  rcases Nat.lt_or_ge i listed.size with h' | h'
  · simp [h'] at h0 ⊢; exact h0
  · simp [Array.getElem?_eq_none h'] at h0

/-- Whatever order is picked; what is pending still holds behind each operation that does not wait for it. -/
def wpAnyP (P : Program) (md : Region.Mode) (ops : Array Oper) (Q : Exit → Act → World → Prop) : Nat → Array Bool → Pend → Act → World → Prop
  | 0, listed, _, a, w => Region.ready md ops listed = [] ∧ Q .normal a w
  | fuel + 1, listed, pend, a, w =>
    (Region.ready md ops listed = [] → Q .normal a w) ∧
    ∀ i ∈ Region.ready md ops listed, wpOp P ops Q i (fun a' w' => ∃ pend' : Pend, (∀ p ∈ pend, p ∈ pend' ∨ Dep md ops i p.1) ∧ (∀ p ∈ pend', p.2 w') ∧
      wpAnyP P md ops Q fuel (listed.setIfInBounds i true) pend' a' w') a w

theorem wpAnyP_any : ∀ (fuel : Nat) (listed : Array Bool) (pend : Pend) (a : Act) (w : World), wpAnyP P md ops Q fuel listed pend a w → wpAny P md ops Q fuel listed a w
  | 0, _, _, _, _, h => h
  | fuel + 1, _, _, _, _, h => ⟨h.1, fun i hi => wpOp_mono (fun a' w' ⟨_, _, _, h'⟩ => wpAnyP_any fuel _ _ a' w' h') (h.2 i hi)⟩

theorem wpAnyP_mono : ∀ (fuel : Nat) (listed : Array Bool) (pend pend' : Pend) (a : Act) (w : World), (∀ p ∈ pend', p ∈ pend) → wpAnyP P md ops Q fuel listed pend a w → wpAnyP P md ops Q fuel listed pend' a w
  | 0, _, _, _, _, _, _, h => h
  | _ + 1, _, _, _, _, _, hs, h => ⟨h.1, fun i hi => wpOp_mono (fun _ _ ⟨pd, h1, h2, h3⟩ => ⟨pd, fun p hp => h1 p (hs p hp), h2, h3⟩) (h.2 i hi)⟩

theorem wpAnyP_first {i : Nat} {oi : Oper} {v : Value} {S : World → Prop} (hi : ops[i]? = some oi) (hsel : ∀ (j : Nat) (o : Oper) cs b, ops[j]? = some o → o.op ≠ .select cs b)
    (hQ : ∀ c a w, Q (.panic c) (a.put oi.dst v) w → Q (.panic c) a w) :
    ∀ (fuel : Nat) (listed : Array Bool) (pend : Pend) (a : Act) (w : World), Closed md ops listed →
      (∀ j oj, ops[j]? = some oj → j ≠ i → listed.getD j true = false → (∀ e ∈ oj.after, Region.binds md e = true → e.on ≠ i) → oi.apart ops oj = true) →
      i ∈ Region.ready md ops listed → YieldsIf P ops S oi v a → S w → (∀ p ∈ pend, p.2 w) →
      wpAnyP P md ops Q fuel (listed.setIfInBounds i true) ((i, S) :: pend) (a.put oi.dst v) w → wpAnyP P md ops Q (fuel + 1) listed pend a w := by
  intro fuel
  induction fuel with
  | zero =>
    intro listed pend a w _ _ hr hy hS hp H
    refine ⟨fun h => (by rw [h] at hr; cases hr), fun j hj => ?_⟩
    by_cases hji : j = i
    · subst hji; exact hy.wpOp hi hS ⟨pend, fun p h => .inl h, hp, H⟩
    · have := ready_mono hj hji
      rw [H.1] at this
      cases this
  | succ fuel ih =>
    intro listed pend a w hc hfree hr hy hS hp H
    refine ⟨fun h => (by rw [h] at hr; cases hr), fun j hj => ?_⟩
    by_cases hji : j = i
    · subst hji
      exact hy.wpOp hi hS ⟨pend, fun p h => .inl h, hp, wpAnyP_mono _ _ _ _ _ _ (fun p h => List.mem_cons_of_mem _ h) H⟩
    · have h1 := H.2 j (ready_mono hj hji)
      obtain ⟨hjun, oj, hoj, hall⟩ := mem_ready.1 hj
      have hun := ready_unlisted hr
      have hnot : ∀ e ∈ oj.after, Region.binds md e = true → e.on ≠ i := fun e he hb heq => by
        have h1 := hall e he hb
        rw [heq, hun] at h1; cases h1
      have hnd : ¬ Dep md ops j i := hc.ready hj hun
      have h2 := wpOp_putIf hoj (hfree j oj hoj hji hjun hnot) (fun cs b => hsel i oi cs b hi) (fun cs b => hsel j oj cs b hoj) hQ hy h1
      have hfree' : ∀ k ok, ops[k]? = some ok → k ≠ i → (listed.setIfInBounds j true).getD k true = false →
          (∀ e ∈ ok.after, Region.binds md e = true → e.on ≠ i) → oi.apart ops ok = true := fun k ok hk hki hun hno => by
        refine hfree k ok hk hki ?_ hno
        by_cases hjk : j = k
        · subst hjk; exact hjun
        · rw [getD_set_ne true hjk] at hun; exact hun
      refine wpOp_mono (fun a' w' h3 => ?_) h2
      obtain ⟨hy', pd, hpd1, hpd2, hrest⟩ := h3
      have hmem : ((i, S) : Nat × (World → Prop)) ∈ pd := (hpd1 (i, S) (List.mem_cons_self ..)).resolve_right hnd
      refine ⟨pd, fun p h => hpd1 p (List.mem_cons_of_mem _ h), hpd2, ih (listed.setIfInBounds j true) pd a' w' (hc.set hj) hfree' (ready_mono hr (Ne.symm hji)) hy' (hpd2 _ hmem) hpd2 ?_⟩
      rw [Array.setIfInBounds_comm _ _ hji]
      exact wpAnyP_mono _ _ _ _ _ _ (fun p h => by rcases List.mem_cons.1 h with rfl | h; exact hmem; exact h) hrest

/-- An order of the operations: q: one that only yields; e: one that may change the world; br: likewise, and the others that might come up there. -/
inductive Sched
  | done
  | q (i : Nat) (s : Sched)
  | e (i : Nat) (s : Sched)
  | br (i : Nat) (s rest : Sched)

def Sched.heads : Sched → List Nat
  | .e i _ => [i]
  | .br i _ r => i :: r.heads
  | _ => []

/-- Is it one? -/
def Sched.ok (md : Region.Mode) (ops : Array Oper) : Bool → Sched → Array Bool → Nat → Bool
  | _, .done, listed, n => n == 0 && Region.ready md ops listed == []
  | _, .q i s, listed, n => match n with
    | 0 => false
    | n + 1 => (Region.ready md ops listed).contains i && Region.free md ops listed i && s.ok md ops true (listed.setIfInBounds i true) n
  | head, .e i s, listed, n => match n with
    | 0 => false
    | n + 1 => (!head || (Region.ready md ops listed == [i])) && s.ok md ops true (listed.setIfInBounds i true) n
  | head, .br i s r, listed, n => match n with
    | 0 => false
    | m + 1 => (!head || (Region.ready md ops listed == i :: r.heads)) && s.ok md ops true (listed.setIfInBounds i true) m && r.ok md ops false listed n

def wpS (P : Program) (md : Region.Mode) (ops : Array Oper) (Q : Exit → Act → World → Prop) : Sched → Pend → Act → World → Prop
  | .done, _, a, w => Q .normal a w
  | .q i s, pend, a, w => ∃ oi v, ∃ S : World → Prop, ops[i]? = some oi ∧ YieldsIf P ops S oi v a ∧ S w ∧ (∀ c a w, Q (.panic c) (a.put oi.dst v) w → Q (.panic c) a w) ∧ wpS P md ops Q s ((i, S) :: pend) (a.put oi.dst v) w
  | .e i s, pend, a, w => wpOp P ops Q i (fun a' w' => ∃ pend' : Pend, (∀ p ∈ pend, p ∈ pend' ∨ Dep md ops i p.1) ∧ (∀ p ∈ pend', p.2 w') ∧ wpS P md ops Q s pend' a' w') a w
  | .br i s r, pend, a, w => wpOp P ops Q i (fun a' w' => ∃ pend' : Pend, (∀ p ∈ pend, p ∈ pend' ∨ Dep md ops i p.1) ∧ (∀ p ∈ pend', p.2 w') ∧ wpS P md ops Q s pend' a' w') a w ∧ wpS P md ops Q r pend a w

theorem wpS_any (hs : Region.noSelect ops = true) : ∀ (sc : Sched) (n : Nat) (listed : Array Bool) (pend : Pend) (a : Act) (w : World), Closed md ops listed → (∀ p ∈ pend, p.2 w) → wpS P md ops Q sc pend a w →
    (sc.ok md ops true listed n = true → wpAnyP P md ops Q n listed pend a w) ∧
    (sc.ok md ops false listed (n + 1) = true → (∀ i ∈ sc.heads, i ∈ Region.ready md ops listed) → ∀ i ∈ sc.heads, wpOp P ops Q i (fun a' w' => ∃ pend' : Pend, (∀ p ∈ pend, p ∈ pend' ∨ Dep md ops i p.1) ∧ (∀ p ∈ pend', p.2 w') ∧
      wpAnyP P md ops Q n (listed.setIfInBounds i true) pend' a' w') a w) := by
  intro sc
  induction sc with
  | done =>
    intro n listed pend a w hc hp h
    refine ⟨fun hok => ?_, fun _ _ i hi => by simp [Sched.heads] at hi⟩
    simp only [Sched.ok, Bool.and_eq_true, beq_iff_eq] at hok
    obtain ⟨rfl, hok⟩ := hok
    exact ⟨hok, h⟩
  | q i s ih =>
    intro n listed pend a w hc hp h
    refine ⟨fun hok => ?_, fun _ _ i hi => by simp [Sched.heads] at hi⟩
    cases n with
    | zero => simp [Sched.ok] at hok
    | succ n =>
      simp only [Sched.ok, Bool.and_eq_true] at hok
      obtain ⟨oi, v, S, hi, hy, hS, hQ, hrest⟩ := h
      have hr : i ∈ Region.ready md ops listed := by simpa using hok.1.1
      refine wpAnyP_first hi (Region.noSelect_spec hs) hQ n listed pend a w hc (Region.free_spec hi hok.1.2) hr hy hS hp ?_
      exact (ih n _ _ _ _ (hc.set hr) (fun p h => by rcases List.mem_cons.1 h with rfl | h; exact hS; exact hp p h) hrest).1 hok.2
  | e i s ih =>
    intro n listed pend a w hc hp h
    have main : i ∈ Region.ready md ops listed → ∀ m, s.ok md ops true (listed.setIfInBounds i true) m = true → wpOp P ops Q i (fun a' w' => ∃ pend' : Pend, (∀ p ∈ pend, p ∈ pend' ∨ Dep md ops i p.1) ∧ (∀ p ∈ pend', p.2 w') ∧
      wpAnyP P md ops Q m (listed.setIfInBounds i true) pend' a' w') a w := fun hr m hm =>
      wpOp_mono (fun a' w' ⟨pd, h1, h2, h3⟩ => ⟨pd, h1, h2, (ih m _ _ _ _ (hc.set hr) h2 h3).1 hm⟩) h
    constructor
    · intro hok
      cases n with
      | zero => simp [Sched.ok] at hok
      | succ n =>
        simp only [Sched.ok, Bool.and_eq_true, Bool.not_true, Bool.false_or, beq_iff_eq] at hok
        exact ⟨fun h0 => (by rw [h0] at hok; exact absurd hok.1 (by simp)), fun k hk => by
          have hk' := hk
          rw [hok.1] at hk; simp at hk; subst hk; exact main hk' n hok.2⟩
    · intro hok hrs k hk
      have hk' := hrs k hk
      simp [Sched.heads] at hk
      subst hk
      simp only [Sched.ok, Bool.and_eq_true] at hok
      exact main hk' n hok.2
  | br i s r ihs ihr =>
    intro n listed pend a w hc hp h
    have main : i ∈ Region.ready md ops listed → ∀ m, s.ok md ops true (listed.setIfInBounds i true) m = true → wpOp P ops Q i (fun a' w' => ∃ pend' : Pend, (∀ p ∈ pend, p ∈ pend' ∨ Dep md ops i p.1) ∧ (∀ p ∈ pend', p.2 w') ∧
      wpAnyP P md ops Q m (listed.setIfInBounds i true) pend' a' w') a w := fun hr m hm =>
      wpOp_mono (fun a' w' ⟨pd, h1, h2, h3⟩ => ⟨pd, h1, h2, (ihs m _ _ _ _ (hc.set hr) h2 h3).1 hm⟩) h.1
    constructor
    · intro hok
      cases n with
      | zero => simp [Sched.ok] at hok
      | succ n =>
        simp only [Sched.ok, Bool.and_eq_true, Bool.not_true, Bool.false_or, beq_iff_eq] at hok
        have hrs : ∀ k ∈ r.heads, k ∈ Region.ready md ops listed := fun k hk => by rw [hok.1.1]; exact List.mem_cons_of_mem _ hk
        exact ⟨fun h0 => (by rw [h0] at hok; exact absurd hok.1.1 (by simp)), fun k hk => by
          have hk' := hk
          rw [hok.1.1] at hk
          rcases List.mem_cons.1 hk with rfl | hk
          · exact main hk' n hok.1.2
          · exact (ihr n listed pend a w hc hp h.2).2 hok.2 hrs k hk⟩
    · intro hok hrs k hk
      simp only [Sched.ok, Bool.and_eq_true] at hok
      rcases List.mem_cons.1 hk with rfl | hk
      · exact main (hrs _ (List.mem_cons_self ..)) n hok.1.2
      · exact (ihr n listed pend a w hc hp h.2).2 hok.2 (fun k hk => hrs k (List.mem_cons_of_mem _ hk)) k hk
end any

/-! ### The judgement -/

def NP (Q : Exit → Act → World → Prop) : Exit → Act → World → Prop
  | .panic _, _, _ => False
  | e, a, w => Q e a w

/-- What was read, and may have to be read again. -/
structure Rd where
  i : Nat
  t : TypeId
  p : Addr
  v : Value

def Rd.holds (P : Program) (r : Rd) (w : World) : Prop := (loadVar r.t r.p).run P w = .ok r.v w

/-- The pending readings hold over these chunks. -/
def Obl (P : Program) (s : World) (H : List HP) : List Rd → Prop
  | [] => True
  | r :: l => LoadJ P s H r.t r.p r.v ∧ Obl P s H l

def SJ (P : Program) (s : World) (n : Nat) (ops : Array Oper) (Q : Exit → Act → World → Prop) (sc : Sched) (rd : List Rd) (E : List (Nat × Value)) (H : List HP) : Prop :=
  ∀ a w pend, Env a n E → Sat s w (stars H) → (∀ p ∈ pend, (∀ w', p.2 w') ∨ ∃ r ∈ rd, p.1 = r.i ∧ p.2 = r.holds P) → wpS P .any ops (NP Q) sc pend a w

section
variable {P : Program} {s : World} {n : Nat} {E : List (Nat × Value)} {H : List HP} {Q : Exit → Act → World → Prop} {ops : Array Oper}

theorem Obl.mem {l : List Rd} (h : Obl P s H l) {r : Rd} (hr : r ∈ l) : LoadJ P s H r.t r.p r.v := by
  induction l with
  | nil => cases hr
  | cons x l ih =>
    rcases List.mem_cons.1 hr with rfl | hr
    · exact h.1
    · exact ih h.2 hr

theorem CJ_draw {id : Nat} {l : List Oper} (sc : Sched) (hm : P.follows .mixedOrders = true) (hsel : Region.noSelect l.toArray = true)
    (hok : sc.ok .any l.toArray true (Array.replicate l.length false) l.length = true) (k : SJ P s n l.toArray Q sc [] E H) : CJ P s n (.region id l.toArray true) E H Q := by
  intro a w he hs
  have h0 := k a { w with drawn := w.drawn + 1 } [] he (hs.drew (Nat.le_succ _)) (fun p hp => by cases hp)
  have hcl : Closed .any l.toArray (Array.replicate l.length false) := fun k i hk _ => by
    by_cases hl : k < l.length <;> simp [hl] at hk
  have h1 := (wpS_any hsel sc l.length (Array.replicate l.length false) [] a _ hcl (fun p hp => by cases hp) h0).1 hok
  have h2 : (Code.region id l.toArray true).wp P (NP Q) a w := wp_region_any hm (by simpa using wpAnyP_any _ _ _ _ _ h1)
  exact wp_mono h2 fun e a w h => by cases e <;> first | exact h | exact h.elim

theorem SJ_done {rd : List Rd} (k : NJ s n Q .normal E H) : SJ P s n ops Q .done rd E H := fun a w _ he hs _ => k a w he hs

theorem NP_panic {c : List PanicEntry} {a a' : Act} {w : World} : NP Q (.panic c) a w → NP Q (.panic c) a' w := fun h => h.elim

/-- A step that only yields, whatever the memory. -/
theorem SJ_q {i d : Nat} {op : Op} {ty : TypeId} {pos : String} {af : Array Edge} {g : Option (Nat × Bool)} {v : Value} {sc : Sched} {rd : List Rd} (hi : ops[i]? = some ⟨some d, op, ty, pos, af, g⟩)
    (hw : ∀ a, Env a n E → Region.wanted ⟨some d, op, ty, pos, af, g⟩ (yielded ops a.tmps) = true) (hd : Nat.ble (d + 1) n = true)
    (h : ∀ s H, OpQ P s n E H op ty v) (k : SJ P s n ops Q sc rd ((d, v) :: E) H) : SJ P s n ops Q (.q i sc) rd E H := by
  intro a w pend he hs hp
  refine ⟨_, v, fun _ => True, hi, .inl ⟨hw a he, fun w' _ => h w' [] a w' he ⟨rfl, ⟨rfl, Nat.le_refl _⟩, rfl, fun _ => none, fun _ _ h => (by cases h), fun _ => rfl⟩ _ _ _ _⟩, trivial, fun _ _ _ h => NP_panic h, ?_⟩
  exact k _ _ _ (he.put hd v) hs fun p h => by
    rcases List.mem_cons.1 h with rfl | h
    · exact .inl fun _ => trivial
    · exact hp p h

/-- A reading of memory. -/
theorem SJ_load {i d : Nat} {t : TypeId} {x : Operand} {p : Addr} {ty : TypeId} {pos : String} {af : Array Edge} {g : Option (Nat × Bool)} {v : Value} {sc : Sched} {rd : List Rd} (hi : ops[i]? = some ⟨some d, .load t x, ty, pos, af, g⟩)
    (hw : ∀ a, Env a n E → Region.wanted ⟨some d, .load t x, ty, pos, af, g⟩ (yielded ops a.tmps) = true) (hd : Nat.ble (d + 1) n = true)
    (hx : ev E x = some (.pointer (some p))) (hl : LoadJ P s H t p v) (k : SJ P s n ops Q sc (⟨i, t, p, v⟩ :: rd) ((d, v) :: E) H) : SJ P s n ops Q (.q i sc) rd E H := by
  intro a w pend he hs hp
  refine ⟨_, v, Rd.holds P ⟨i, t, p, v⟩, hi, .inl ⟨hw a he, fun w' hw' => ?_⟩, hl w hs, fun _ _ _ h => NP_panic h, ?_⟩
  · simp only [execOp, he.ev hx]
    refine run_v ?_
    have : (loadVar t p).run P w' = .ok v w' := hw'
    simp [Instr.loadAt, Instr.sureAddr, this]
  · exact k _ _ _ (he.put hd v) hs fun q h => by
      rcases List.mem_cons.1 h with rfl | h
      · exact .inr ⟨_, List.mem_cons_self .., rfl, rfl⟩
      · rcases hp q h with a | ⟨r, hr, b⟩
        · exact .inl a
        · exact .inr ⟨r, List.mem_cons_of_mem _ hr, b⟩

/-- One that its guard passes over. -/
theorem SJ_no {i d : Nat} {op : Op} {ty : TypeId} {pos : String} {af : Array Edge} {j t : Nat} {b want : Bool} (b' : Bool) {sc : Sched} {rd : List Rd} (hi : ops[i]? = some ⟨some d, op, ty, pos, af, some (j, want)⟩)
    (hj : (ops[j]?).bind (·.dst) = some t) (hl : look E t = some (.bool b)) (hb1 : b = b') (hb2 : b' ≠ want) (hd : Nat.ble (d + 1) n = true) (k : SJ P s n ops Q sc rd ((d, undef) :: E) H) : SJ P s n ops Q (.q i sc) rd E H := by
  have hb : b ≠ want := hb1 ▸ hb2
  intro a w pend he hs hp
  refine ⟨_, undef, fun _ => True, hi, .inr ⟨?_, rfl⟩, trivial, fun _ _ _ h => NP_panic h, ?_⟩
  · have hy := yielded_of (ops := ops) he hj hl
    simp [Region.wanted, hy, hb]
  · exact k _ _ _ (he.put hd undef) hs fun p h => by
      rcases List.mem_cons.1 h with rfl | h
      · exact .inl fun _ => trivial
      · exact hp p h

theorem want_none {o : Oper} (h : o.guard = none) : ∀ a, Env a n E → Region.wanted o (yielded ops a.tmps) = true := fun _ _ => by simp [Region.wanted, h]
theorem want_yes {o : Oper} {j t : Nat} {b want : Bool} (h : o.guard = some (j, want)) (hj : (ops[j]?).bind (·.dst) = some t) (hl : look E t = some (.bool b)) (hb : b = want) :
    ∀ a, Env a n E → Region.wanted o (yielded ops a.tmps) = true := fun a he => by
  have hy := yielded_of (ops := ops) he hj hl
  simp [Region.wanted, h, hy, hb]

theorem SJ_eff {i : Nat} {dst : Option Tmp} {op : Op} {ty : TypeId} {pos : String} {af : Array Edge} {g : Option (Nat × Bool)} {sc : Sched} {rd rd' : List Rd} {keep : List Nat} {post : Value → List HP → Prop} (hi : ops[i]? = some ⟨dst, op, ty, pos, af, g⟩)
    (hw : ∀ a, Env a n E → Region.wanted ⟨dst, op, ty, pos, af, g⟩ (yielded ops a.tmps) = true) (hd : ∀ d, dst = some d → Nat.ble (d + 1) n = true)
    (h : OpP P s n E H op ty post) (hr0 : dropOK .any ops i (rd.map Rd.i) keep = true) (hr : rd.filter (fun r => keep.any (Nat.beq r.i)) = rd')
    (k : ∀ v H', post v H' → Obl P s H' rd' ∧ SJ P s n ops Q sc rd' (match dst with | some d => (d, v) :: E | none => E) H') (a : Act) (w : World) (pend : Pend) (he : Env a n E) (hs : Sat s w (stars H))
    (hp : ∀ p ∈ pend, (∀ w', p.2 w') ∨ ∃ r ∈ rd, p.1 = r.i ∧ p.2 = r.holds P) :
    wpOp P ops (NP Q) i (fun a' w' => ∃ pend' : Pend, (∀ p ∈ pend, p ∈ pend' ∨ Dep .any ops i p.1) ∧ (∀ p ∈ pend', p.2 w') ∧ wpS P .any ops (NP Q) sc pend' a' w') a w := by
  subst hr
  classical
  unfold wpOp
  simp only [hi]
  rw [if_pos (hw a he)]
  refine .inl (h a w he hs _ _ _ _ _ _ fun v H' w' hpost hs' => ?_)
  obtain ⟨ho, hk⟩ := k v H' hpost
  let keepP : Nat × (World → Prop) → Prop := fun p => (∀ w', p.2 w') ∨ ∃ r ∈ rd.filter (fun r => keep.any (Nat.beq r.i)), p.1 = r.i ∧ p.2 = r.holds P
  refine ⟨pend.filter (fun p => decide (keepP p)), fun p hpm => ?_, fun p hpm => ?_, hk _ _ _ ?_ hs' fun p hpm => ?_⟩
  · by_cases hkp : keepP p
    · exact .inl (List.mem_filter.2 ⟨hpm, by simpa using hkp⟩)
    · rcases hp p hpm with x | ⟨r, hrm, e1, e2⟩
      · exact absurd (.inl x) hkp
      · rcases dropOK_spec hr0 r.i (List.mem_map_of_mem hrm) with y | y
        · refine absurd (.inr ⟨r, List.mem_filter.2 ⟨hrm, ?_⟩, e1, e2⟩) hkp
          rw [List.any_eq_true]
          exact ⟨r.i, y, by simp⟩
        · exact .inr (by rw [e1]; exact y)
  · rw [List.mem_filter] at hpm
    have hkp : keepP p := by simpa using hpm.2
    rcases hkp with x | ⟨r, hrm, e1, e2⟩
    · exact x w'
    · rw [e2]; exact ho.mem hrm w' hs'
  · cases dst with
    | none => exact he
    | some d => exact he.put (hd d rfl) v
  · rw [List.mem_filter] at hpm
    exact of_decide_eq_true hpm.2

/-- A step that may change the world. -/
theorem SJ_p {i d : Nat} {op : Op} {ty : TypeId} {pos : String} {af : Array Edge} {g : Option (Nat × Bool)} {sc : Sched} {rd rd' : List Rd} (keep : List Nat) {post : Value → List HP → Prop} (hi : ops[i]? = some ⟨some d, op, ty, pos, af, g⟩)
    (hw : ∀ a, Env a n E → Region.wanted ⟨some d, op, ty, pos, af, g⟩ (yielded ops a.tmps) = true) (hd : Nat.ble (d + 1) n = true)
    (h : OpP P s n E H op ty post) (hr0 : dropOK .any ops i (rd.map Rd.i) keep = true) (hr : rd.filter (fun r => keep.any (Nat.beq r.i)) = rd')
    (k : ∀ v H', post v H' → Obl P s H' rd' ∧ SJ P s n ops Q sc rd' ((d, v) :: E) H') : SJ P s n ops Q (.e i sc) rd E H :=
  fun a w pend he hs hp => SJ_eff hi hw (fun d' e => by cases e; exact hd) h hr0 hr k a w pend he hs hp

theorem SJ_p0 {i : Nat} {op : Op} {ty : TypeId} {pos : String} {af : Array Edge} {g : Option (Nat × Bool)} {sc : Sched} {rd rd' : List Rd} (keep : List Nat) {post : Value → List HP → Prop} (hi : ops[i]? = some ⟨none, op, ty, pos, af, g⟩)
    (hw : ∀ a, Env a n E → Region.wanted ⟨none, op, ty, pos, af, g⟩ (yielded ops a.tmps) = true)
    (h : OpP P s n E H op ty post) (hr0 : dropOK .any ops i (rd.map Rd.i) keep = true) (hr : rd.filter (fun r => keep.any (Nat.beq r.i)) = rd')
    (k : ∀ v H', post v H' → Obl P s H' rd' ∧ SJ P s n ops Q sc rd' E H') : SJ P s n ops Q (.e i sc) rd E H :=
  fun a w pend he hs hp => SJ_eff hi hw (fun d' e => by cases e) h hr0 hr k a w pend he hs hp

/-- One of several that might come up here. -/
theorem SJ_br {i : Nat} {sc r : Sched} {rd : List Rd} (k1 : SJ P s n ops Q (.e i sc) rd E H) (k2 : SJ P s n ops Q r rd E H) : SJ P s n ops Q (.br i sc r) rd E H :=
  fun a w pend he hs hp => ⟨k1 a w pend he hs hp, k2 a w pend he hs hp⟩

theorem SJ_d {i d : Nat} {op : Op} {ty : TypeId} {pos : String} {af : Array Edge} {g : Option (Nat × Bool)} {sc : Sched} {rd rd' : List Rd} (keep : List Nat) {v : Value} {H' : List HP} (hi : ops[i]? = some ⟨some d, op, ty, pos, af, g⟩)
    (hw : ∀ a, Env a n E → Region.wanted ⟨some d, op, ty, pos, af, g⟩ (yielded ops a.tmps) = true) (hd : Nat.ble (d + 1) n = true)
    (h : OpD P s n E H op ty v H') (hr0 : dropOK .any ops i (rd.map Rd.i) keep = true) (hr : rd.filter (fun r => keep.any (Nat.beq r.i)) = rd') (ho : Obl P s H' rd') (k : SJ P s n ops Q sc rd' ((d, v) :: E) H') : SJ P s n ops Q (.e i sc) rd E H :=
  SJ_p keep hi hw hd h.opP hr0 hr fun _ _ ⟨a, b⟩ => by subst a; subst b; exact ⟨ho, k⟩
theorem SJ_d0 {i : Nat} {op : Op} {ty : TypeId} {pos : String} {af : Array Edge} {g : Option (Nat × Bool)} {sc : Sched} {rd rd' : List Rd} (keep : List Nat) {v : Value} {H' : List HP} (hi : ops[i]? = some ⟨none, op, ty, pos, af, g⟩)
    (hw : ∀ a, Env a n E → Region.wanted ⟨none, op, ty, pos, af, g⟩ (yielded ops a.tmps) = true)
    (h : OpD P s n E H op ty v H') (hr0 : dropOK .any ops i (rd.map Rd.i) keep = true) (hr : rd.filter (fun r => keep.any (Nat.beq r.i)) = rd') (ho : Obl P s H' rd') (k : SJ P s n ops Q sc rd' E H') : SJ P s n ops Q (.e i sc) rd E H :=
  SJ_p0 keep hi hw h.opP hr0 hr fun _ _ ⟨_, b⟩ => by subst b; exact ⟨ho, k⟩

theorem OS_app0 {sc : Sched} {rd : List Rd} {R : List HP} (k : Obl P s R rd ∧ SJ P s n ops Q sc rd E R) : Obl P s ([] ++ R) rd ∧ SJ P s n ops Q sc rd E ([] ++ R) := k
theorem OS_app1 {sc : Sched} {rd : List Rd} {A : HP} {R : List HP} (k : Obl P s (A :: R) rd ∧ SJ P s n ops Q sc rd E (A :: R)) : Obl P s ([A] ++ R) rd ∧ SJ P s n ops Q sc rd E ([A] ++ R) := k
theorem OS_app2 {sc : Sched} {rd : List Rd} {A B : HP} {R : List HP} (k : Obl P s (A :: B :: R) rd ∧ SJ P s n ops Q sc rd E (A :: B :: R)) : Obl P s ([A, B] ++ R) rd ∧ SJ P s n ops Q sc rd E ([A, B] ++ R) := k
theorem OS_app3 {sc : Sched} {rd : List Rd} {A B C : HP} {R : List HP} (k : Obl P s (A :: B :: C :: R) rd ∧ SJ P s n ops Q sc rd E (A :: B :: C :: R)) : Obl P s ([A, B, C] ++ R) rd ∧ SJ P s n ops Q sc rd E ([A, B, C] ++ R) := k

theorem SJ_drop {sc : Sched} {rd rd' : List Rd} (hm : ∀ r ∈ rd, r ∈ rd') (k : SJ P s n ops Q sc rd' E H) : SJ P s n ops Q sc rd E H := fun a w pend he hs hp => k a w pend he hs fun p h => by
  rcases hp p h with x | ⟨r, hr, e⟩
  · exact .inl x
  · exact .inr ⟨r, hm r hr, e⟩
theorem SJ_imp {sc : Sched} {rd : List Rd} {H' : List HP} (l : Imp H H') (k : SJ P s n ops Q sc rd E H') : SJ P s n ops Q sc rd E H := fun a w pend he hs hp => k a w pend he (l.sat hs) hp
theorem SJ_open {sc : Sched} {rd : List Rd} {p : HP} {S : List HP → Prop} {R : List HP} (o : Opens p S) (pk : Pick H p R) (k : ∀ l, S l → SJ P s n ops Q sc rd E (l ++ R)) : SJ P s n ops Q sc rd E H := fun a w pend he hs hp => by
  obtain ⟨l, hl, hs'⟩ := Sat.open o pk hs
  exact k l hl a w pend he hs' hp
theorem SJ_know {sc : Sched} {rd : List Rd} {φ : Prop} (f : ∀ w, Sat s w (stars H) → φ) (k : φ → SJ P s n ops Q sc rd E H) : SJ P s n ops Q sc rd E H := fun a w pend he hs hp => k (f w hs) a w pend he hs hp
theorem SJ_app1 {sc : Sched} {rd : List Rd} {A : HP} {R : List HP} (k : SJ P s n ops Q sc rd E (A :: R)) : SJ P s n ops Q sc rd E ([A] ++ R) := k
theorem SJ_app2 {sc : Sched} {rd : List Rd} {A B : HP} {R : List HP} (k : SJ P s n ops Q sc rd E (A :: B :: R)) : SJ P s n ops Q sc rd E ([A, B] ++ R) := k
theorem SJ_app3 {sc : Sched} {rd : List Rd} {A B C : HP} {R : List HP} (k : SJ P s n ops Q sc rd E (A :: B :: C :: R)) : SJ P s n ops Q sc rd E ([A, B, C] ++ R) := k
theorem SJ_env {sc : Sched} {rd : List Rd} {E' : List (Nat × Value)} (l : EnvLe E E') (k : SJ P s n ops Q sc rd E' H) : SJ P s n ops Q sc rd E H := fun a w pend he hs hp => k a w pend (l.env he) hs hp
end
end Go.Proofs.Ytbaecpddhdeapaa.SL
