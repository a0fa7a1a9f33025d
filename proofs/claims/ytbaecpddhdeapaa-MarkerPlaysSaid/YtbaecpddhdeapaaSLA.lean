/- A separation logic over the kit's weakest preconditions: partial heaps, satisfaction, environments of slots, judgements on code. -/
import Derived.WalkKit
import Derived.WalkSpells
import Derived.WalkLawsBesides
import Derived.KernelRfl
namespace Go.Proofs.Ytbaecpddhdeapaa.SL
open Go Go.RowKit

abbrev Ph := Nat → Option Obj
abbrev HP := Ph → Prop

def emp : HP := fun h => ∀ k, h k = none
def pt (b : Nat) (o : Obj) : HP := fun h => ∀ k, h k = if k = b then some o else none
def sep (p q : HP) : HP := fun h => ∃ h1 h2 : Ph, p h1 ∧ q h2 ∧ (∀ k, h1 k = none ∨ h2 k = none) ∧ ∀ k, h k = (h1 k).or (h2 k)
def stars : List HP → HP
  | [] => emp
  | p :: l => sep p (stars l)
/-- What the old world held. -/
def old (w0 : World) : HP := fun h => ∀ k, h k = w0.heap[k]?

theorem sep_mono {p p' q q' : HP} {h : Ph} (hp : ∀ h, p h → p' h) (hq : ∀ h, q h → q' h) : sep p q h → sep p' q' h :=
  fun ⟨h1, h2, a, b, c, d⟩ => ⟨h1, h2, hp _ a, hq _ b, c, d⟩

theorem sep_comm {p q : HP} {h : Ph} (H : sep p q h) : sep q p h := by
  obtain ⟨h1, h2, a, b, c, d⟩ := H
  refine ⟨h2, h1, b, a, fun k => (c k).symm, fun k => ?_⟩
  rw [d k]
  rcases c k with e | e <;> simp [e]

theorem sep_assoc {p q r : HP} {h : Ph} (H : sep (sep p q) r h) : sep p (sep q r) h := by
  obtain ⟨h12, h3, ⟨h1, h2, a, b, c, d⟩, e, f, g⟩ := H
  have k1 : ∀ k, h1 k = none ∨ h3 k = none := fun k => by
    rcases f k with x | x
    · rw [d k] at x; left; cases hh : h1 k <;> simp_all
    · exact .inr x
  have k2 : ∀ k, h2 k = none ∨ h3 k = none := fun k => by
    rcases f k with x | x
    · rw [d k] at x; left; cases hh : h1 k <;> simp_all
    · exact .inr x
  refine ⟨h1, fun k => (h2 k).or (h3 k), a, ⟨h2, h3, b, e, k2, fun k => rfl⟩, fun k => ?_, fun k => ?_⟩
  · rcases c k with x | x
    · exact .inl x
    · rcases k1 k with y | y
      · exact .inl y
      · exact .inr (by simp [x, y])
  · rw [g k, d k]; cases h1 k <;> simp

theorem sep_assoc' {p q r : HP} {h : Ph} (H : sep p (sep q r) h) : sep (sep p q) r h := by
  have := sep_comm (sep_assoc (sep_comm (sep_assoc (sep_comm H))))
  exact this

theorem sep_emp {p : HP} {h : Ph} (H : p h) : sep p emp h := ⟨h, fun _ => none, H, fun _ => rfl, fun _ => .inr rfl, fun k => by simp⟩
theorem emp_sep {p : HP} {h : Ph} (H : p h) : sep emp p h := sep_comm (sep_emp H)
theorem sep_swap {p q r : HP} {h : Ph} (H : sep p (sep q r) h) : sep q (sep p r) h :=
  sep_assoc (sep_mono (fun _ x => sep_comm x) (fun _ x => x) (sep_assoc' H))

theorem ext_ph {h h' : Ph} (e : ∀ k, h k = h' k) : h = h' := funext e

theorem sep_emp_out {p : HP} {h : Ph} (H : sep p emp h) : p h := by
  obtain ⟨h1, h2, a, b, _, d⟩ := H
  have : h = h1 := ext_ph fun k => by rw [d k, b k]; simp
  exact this ▸ a
theorem emp_sep_out {p : HP} {h : Ph} (H : sep emp p h) : p h := sep_emp_out (sep_comm H)

theorem stars_append {l l' : List HP} {h : Ph} : stars (l ++ l') h ↔ sep (stars l) (stars l') h := by
  induction l generalizing h with
  | nil => exact ⟨fun H => emp_sep H, fun H => emp_sep_out H⟩
  | cons p l ih =>
    constructor
    · intro H
      exact sep_assoc' (sep_mono (fun _ x => x) (fun _ x => ih.1 x) H)
    · intro H
      exact sep_mono (fun _ x => x) (fun _ x => ih.2 x) (sep_assoc H)

/-- One chunk taken out of a list. -/
inductive Pick : List HP → HP → List HP → Prop
  | here {x : HP} {l : List HP} : Pick (x :: l) x l
  | there {x z : HP} {l l' : List HP} (h : Pick l x l') : Pick (z :: l) x (z :: l')

theorem Pick.out {l l' : List HP} {x : HP} (h : Pick l x l') : ∀ {p : Ph}, stars l p → sep x (stars l') p := by
  induction h with
  | here => exact fun H => H
  | there _ ih => exact fun H => sep_swap (sep_mono (fun _ x => x) (fun _ x => ih x) H)

theorem Pick.back {l l' : List HP} {x : HP} (h : Pick l x l') : ∀ {p : Ph}, sep x (stars l') p → stars l p := by
  induction h with
  | here => exact fun H => H
  | there _ ih => exact fun H => sep_mono (fun _ x => x) (fun _ x => ih x) (sep_swap H)

/-- One chunk replaced in its place. -/
inductive Repl : List HP → HP → HP → List HP → Prop
  | here {x y : HP} {l : List HP} : Repl (x :: l) x y (y :: l)
  | there {x y z : HP} {l l' : List HP} (h : Repl l x y l') : Repl (z :: l) x y (z :: l')

theorem Repl.picks {l l' : List HP} {x y : HP} (h : Repl l x y l') : ∃ r, Pick l x r ∧ Pick l' y r := by
  induction h with
  | here => exact ⟨_, .here, .here⟩
  | there _ ih => obtain ⟨r, a, b⟩ := ih; exact ⟨_, .there a, .there b⟩

def Sat (s w : World) (p : HP) : Prop :=
  w.os = s.os ∧ (w.tape = s.tape ∧ s.drawn ≤ w.drawn) ∧ w.output = s.output ∧ ∃ h : Ph, (∀ k o, h k = some o → w.heap[k]? = some o) ∧ p h

theorem Sat.mono {s w : World} {p q : HP} (H : Sat s w p) (hpq : ∀ h, p h → q h) : Sat s w q :=
  let ⟨a, b, c, h, d, e⟩ := H
  ⟨a, b, c, h, d, hpq h e⟩

theorem Sat.left {s w : World} {p q : HP} (H : Sat s w (sep p q)) : Sat s w p := by
  obtain ⟨a, b, c, h, d, h1, h2, e, f, g, i⟩ := H
  exact ⟨a, b, c, h1, fun k o hk => d k o (by rw [i k, hk]; rfl), e⟩

theorem Sat.right {s w : World} {p q : HP} (H : Sat s w (sep p q)) : Sat s w q := Sat.left (H.mono fun _ x => sep_comm x)

theorem Sat.pt_get {s w : World} {b : Nat} {o : Obj} (H : Sat s w (pt b o)) : w.heap[b]? = some o := by
  obtain ⟨_, _, _, h, d, e⟩ := H
  exact d b o (by rw [e b]; simp)

theorem Sat.get {s w : World} {H H' : List HP} {b : Nat} {o : Obj} (S : Sat s w (stars H)) (p : Pick H (pt b o) H') : w.heap[b]? = some o :=
  (S.mono fun _ x => p.out x).left.pt_get

theorem Sat.pick {s w : World} {H H' : List HP} {x : HP} (S : Sat s w (stars H)) (p : Pick H x H') : Sat s w (sep x (stars H')) := S.mono fun _ y => p.out y

theorem Sat.drop {s w : World} {H H' : List HP} {x : HP} (S : Sat s w (stars H)) (p : Pick H x H') : Sat s w (stars H') := (S.pick p).right

theorem Sat.upd {s w w' : World} {b : Nat} {o o' : Obj} {R : HP} (S : Sat s w (sep (pt b o) R)) (h1 : w'.os = w.os) (h2 : w'.tape = w.tape ∧ w.drawn ≤ w'.drawn) (h3 : w'.output = w.output)
    (hb : w'.heap[b]? = some o') (hk : ∀ k, k ≠ b → k < w.heap.size → w'.heap[k]? = w.heap[k]?) : Sat s w' (sep (pt b o') R) := by
  obtain ⟨e1, e2, e3, h, d, p, q, hp, hq, hd, hu⟩ := S
  refine ⟨h1.trans e1, ⟨h2.1.trans e2.1, Nat.le_trans e2.2 h2.2⟩, h3.trans e3, fun k => if k = b then some o' else h k, ?_, fun k => if k = b then some o' else none, q, fun k => rfl, hq, ?_, ?_⟩
  · intro k ob hko
    by_cases hkb : k = b
    · subst hkb; simp only [if_true] at hko; rw [hb]; exact hko
    · simp only [hkb, if_false] at hko
      have hw := d k ob hko
      have hlt : k < w.heap.size := (Array.getElem?_eq_some_iff.1 hw).1
      rw [hk k hkb hlt]; exact hw
  · intro k
    by_cases hkb : k = b
    · subst hkb
      right
      rcases hd k with x | x
      · rw [hp k] at x; simp at x
      · exact x
    · left; simp [hkb]
  · intro k
    by_cases hkb : k = b
    · simp [hkb]
    · have := hu k
      rw [hp k] at this
      simp [hkb] at this ⊢
      exact this

theorem Sat.fresh {s w w' : World} {b : Nat} {o' : Obj} {R : HP} (S : Sat s w R) (h1 : w'.os = w.os) (h2 : w'.tape = w.tape ∧ w.drawn ≤ w'.drawn) (h3 : w'.output = w.output)
    (hb : w'.heap[b]? = some o') (hsz : w.heap.size ≤ b) (hk : ∀ k, k < w.heap.size → w'.heap[k]? = w.heap[k]?) : Sat s w' (sep (pt b o') R) := by
  obtain ⟨e1, e2, e3, h, d, hr⟩ := S
  have hbn : h b = none := by
    cases hh : h b with
    | none => rfl
    | some o => have := (Array.getElem?_eq_some_iff.1 (d b o hh)).1; omega
  refine ⟨h1.trans e1, ⟨h2.1.trans e2.1, Nat.le_trans e2.2 h2.2⟩, h3.trans e3, fun k => if k = b then some o' else h k, ?_, fun k => if k = b then some o' else none, h, fun k => rfl, hr, ?_, ?_⟩
  · intro k ob hko
    by_cases hkb : k = b
    · subst hkb; simp only [if_true] at hko; rw [hb]; exact hko
    · simp only [hkb, if_false] at hko
      have hw := d k ob hko
      have hlt : k < w.heap.size := (Array.getElem?_eq_some_iff.1 hw).1
      rw [hk k hlt]; exact hw
  · intro k
    by_cases hkb : k = b
    · subst hkb; exact .inr hbn
    · left; simp [hkb]
  · intro k
    by_cases hkb : k = b <;> simp [hkb]

theorem Sat.same {s w w' : World} {R : HP} (S : Sat s w R) (h1 : w'.os = w.os) (h2 : w'.tape = w.tape ∧ w.drawn ≤ w'.drawn) (h3 : w'.output = w.output)
    (hk : ∀ k, k < w.heap.size → w'.heap[k]? = w.heap[k]?) : Sat s w' R := by
  obtain ⟨e1, e2, e3, h, d, hr⟩ := S
  refine ⟨h1.trans e1, ⟨h2.1.trans e2.1, Nat.le_trans e2.2 h2.2⟩, h3.trans e3, h, fun k o hko => ?_, hr⟩
  have hw := d k o hko
  rw [hk k (Array.getElem?_eq_some_iff.1 hw).1]; exact hw

theorem Sat.drew {s w : World} {R : HP} (S : Sat s w R) {n : Nat} (h : w.drawn ≤ n) : Sat s { w with drawn := n } R := S.same rfl ⟨rfl, h⟩ rfl fun _ _ => rfl

theorem Sat.alloc {s w : World} {R : HP} (S : Sat s w R) (o : Obj) : Sat s (w.alloc o) (sep (pt w.heap.size o) R) :=
  S.fresh rfl ⟨rfl, Nat.le_refl _⟩ rfl (by show (w.heap.push o)[w.heap.size]? = _; simp) (Nat.le_refl _) fun {k} hk => by show (w.heap.push o)[k]? = _; rw [Array.getElem?_push, if_neg (by omega)]

theorem Sat.repl {s w w' : World} {H H' : List HP} {b : Nat} {o o' : Obj} (S : Sat s w (stars H)) (p : Repl H (pt b o) (pt b o') H')
    (h1 : w'.os = w.os) (h2 : w'.tape = w.tape ∧ w.drawn ≤ w'.drawn) (h3 : w'.output = w.output) (hb : w'.heap[b]? = some o') (hk : ∀ k, k ≠ b → k < w.heap.size → w'.heap[k]? = w.heap[k]?) :
    Sat s w' (stars H') := by
  obtain ⟨r, p1, p2⟩ := p.picks
  exact ((S.pick p1).upd h1 h2 h3 hb hk).mono fun _ x => p2.back x

/-- A part of a heap. -/
def Le (h' h : Ph) : Prop := ∀ k o, h' k = some o → h k = some o
theorem Sat.le {s w : World} {p q : HP} (H : Sat s w p) (hpq : ∀ h, p h → ∃ h', Le h' h ∧ q h') : Sat s w q := by
  obtain ⟨a, b, c, h, d, e⟩ := H
  obtain ⟨h', l, f⟩ := hpq h e
  exact ⟨a, b, c, h', fun k o hk => d k o (l k o hk), f⟩

/-- What entails what, between lists of chunks (what is left over may go). -/
def Imp (H H' : List HP) : Prop := ∀ h, stars H h → ∃ h', Le h' h ∧ stars H' h'
theorem Imp.sat {H H' : List HP} (e : Imp H H') {s w : World} (S : Sat s w (stars H)) : Sat s w (stars H') := S.le e
theorem Imp.refl (H : List HP) : Imp H H := fun h x => ⟨h, fun _ _ y => y, x⟩
theorem Imp.trans {H H' H'' : List HP} (a : Imp H H') (b : Imp H' H'') : Imp H H'' := fun h x => by
  obtain ⟨h1, l1, x1⟩ := a h x
  obtain ⟨h2, l2, x2⟩ := b h1 x1
  exact ⟨h2, fun k o y => l1 k o (l2 k o y), x2⟩
theorem Imp.nil {H : List HP} : Imp H [] := fun _ _ => ⟨fun _ => none, fun _ _ y => (by cases y), fun _ => rfl⟩

theorem Imp.skip {x : HP} {H T : List HP} (e : Imp H T) : Imp (x :: H) T := by
  rintro h ⟨h1, h2, a, b, c, d⟩
  obtain ⟨h3, l, f⟩ := e h2 b
  refine ⟨h3, fun k o hk => ?_, f⟩
  rw [d k]
  rcases c k with y | y
  · rw [y]; simpa using l k o hk
  · have := l k o hk; rw [y] at this; cases this

theorem Imp.sep_mono {p q : HP} {H T : List HP} (hp : ∀ h, p h → q h) (e : Imp H T) : Imp (p :: H) (q :: T) := by
  rintro h ⟨h1, h2, a, b, c, d⟩
  obtain ⟨h3, l, f⟩ := e h2 b
  refine ⟨fun k => (h1 k).or (h3 k), fun k o hk => ?_, h1, h3, hp _ a, f, fun k => ?_, fun _ => rfl⟩
  · rw [d k]
    cases hh : h1 k with
    | some x => simpa [hh] using hk
    | none => simp [hh] at hk ⊢; exact l k o hk
  · rcases c k with x | x
    · exact .inl x
    · right
      cases hh : h3 k with
      | none => rfl
      | some o => have := l k o hh; rw [x] at this; cases this

theorem Pick.imp {H H' : List HP} {x : HP} (p : Pick H x H') : Imp H (x :: H') := fun h y => ⟨h, fun _ _ z => z, p.out y⟩
theorem Imp.cons {H H1 T : List HP} {x : HP} (p : Pick H x H1) (e : Imp H1 T) : Imp H (x :: T) := p.imp.trans (e.sep_mono fun _ y => y)

/-- Entailment on heaps themselves: exact. -/
def Ent (H H' : List HP) : Prop := ∀ h, stars H h → stars H' h
theorem Ent.imp {H H' : List HP} (e : Ent H H') : Imp H H' := fun h x => ⟨h, fun _ _ y => y, e h x⟩
theorem Ent.refl (H : List HP) : Ent H H := fun _ x => x
theorem Ent.trans {H H' H'' : List HP} (a : Ent H H') (b : Ent H' H'') : Ent H H'' := fun h x => b h (a h x)
theorem Ent.cons {H H1 T : List HP} {x : HP} (p : Pick H x H1) (e : Ent H1 T) : Ent H (x :: T) := fun _ hh => sep_mono (fun _ y => y) e (p.out hh)
theorem Ent.nil : Ent [] [] := Ent.refl _

theorem Imp.app {H H' : List HP} (T : List HP) (e : Imp H H') : Imp (H ++ T) (H' ++ T) := by
  intro h hh
  obtain ⟨h1, h2, a, b, c, d⟩ := stars_append.1 hh
  obtain ⟨h3, l, f⟩ := e h1 a
  refine ⟨fun k => (h3 k).or (h2 k), fun k o hk => ?_, stars_append.2 ⟨h3, h2, f, b, fun k => ?_, fun _ => rfl⟩⟩
  · rw [d k]
    cases hh : h3 k with
    | some x => have := l k x hh; simp [hh] at hk; subst hk; simp [this]
    | none =>
      simp [hh] at hk
      rcases c k with x | x
      · simp [x, hk]
      · rw [x] at hk; cases hk
  · rcases c k with x | x
    · left
      cases hh : h3 k with
      | none => rfl
      | some o => have := l k o hh; rw [x] at this; cases this
    · exact .inr x

/-- Chunks out of nothing. -/
theorem Ent.imp_add {D R : List HP} (e : Ent [] D) : Imp R (D ++ R) := fun h hh => ⟨h, fun _ _ y => y, stars_append.2 (SL.sep_mono e (fun _ y => y) (emp_sep hh))⟩

/-- Several chunks C replaced by D, where that follows. -/
theorem Imp.swap {H C D R T : List HP} (e1 : Imp H (C ++ R)) (e2 : Imp C D) (e3 : Imp (D ++ R) T) : Imp H T := e1.trans ((e2.app R).trans e3)

/-- The chunk, found by looking. -/
theorem pkk {H H' : List HP} {x : HP} (h : Pick H x H' := by first | ((repeat (first | with_reducible exact .here | apply Pick.there)); done) | ((repeat (first | exact .here | apply Pick.there)); done)) : Pick H x H' := h
theorem rpp {H H' : List HP} {x y : HP} (h : Repl H x y H' := by repeat (first | exact .here | apply Repl.there)) : Repl H x y H' := h
theorem skk {H T : List HP} (h : Imp H T := by repeat (first | exact Imp.refl _ | refine Imp.skip ?_)) : Imp H T := h
theorem Imp.k {H H1 T : List HP} {x : HP} (p : Pick H x H1 := by first | ((repeat (first | with_reducible exact .here | apply Pick.there)); done) | ((repeat (first | exact .here | apply Pick.there)); done)) (e : Imp H1 T) : Imp H (x :: T) := .cons p e

/-- The slots that are known. -/
def look : List (Nat × Value) → Nat → Option Value
  | [], _ => none
  | (k, v) :: E, t => cond (Nat.beq k t) (some v) (look E t)

def ev (E : List (Nat × Value)) : Operand → Option Value
  | .tmp t => look E t
  | .const v => some v
  | .global g => some (.pointer (some ⟨g, 0, none⟩))
  | .func f => some (.func (.func f) #[] #[])

def Env (a : Act) (n : Nat) (E : List (Nat × Value)) : Prop := a.defers = [] ∧ a.tmps.size = n ∧ ∀ t v, look E t = some v → a.tmps[t]? = some v

theorem Env.ev {a : Act} {n : Nat} {E : List (Nat × Value)} (h : Env a n E) {x : Operand} {v : Value} (hx : ev E x = some v) : a.eval x = v := by
  cases x with
  | tmp t => have := h.2.2 t v hx; simp [Act.eval, Array.getD_eq_getD_getElem?, this]
  | const u => simp only [SL.ev, Option.some.injEq] at hx; exact hx
  | global g => simp only [SL.ev, Option.some.injEq] at hx; exact hx
  | func f => simp only [SL.ev, Option.some.injEq] at hx; exact hx

theorem Env.put {a : Act} {n : Nat} {E : List (Nat × Value)} (h : Env a n E) {d : Nat} (hd : Nat.ble (d + 1) n = true) (v : Value) : Env (a.put (some d) v) n ((d, v) :: E) := by
  have hd' : d < n := Nat.le_of_ble_eq_true hd
  refine ⟨h.1, by simp [Act.put, h.2.1], fun t u hu => ?_⟩
  simp only [look] at hu
  cases hb : Nat.beq d t with
  | true =>
    rw [hb] at hu
    have : d = t := Nat.eq_of_beq_eq_true hb
    subst this
    simp at hu
    subst hu
    simp [Act.put, h.2.1, hd']
  | false =>
    rw [hb] at hu
    have hne : d ≠ t := Nat.ne_of_beq_eq_false hb
    have := h.2.2 t u hu
    simp [Act.put, hne, this]

def EnvLe (E E' : List (Nat × Value)) : Prop := ∀ t v, look E' t = some v → look E t = some v
theorem EnvLe.env {a : Act} {n : Nat} {E E' : List (Nat × Value)} (l : EnvLe E E') (h : Env a n E) : Env a n E' := ⟨h.1, h.2.1, fun t v hv => h.2.2 t v (l t v hv)⟩
theorem EnvLe.refl (E : List (Nat × Value)) : EnvLe E E := fun _ _ h => h
theorem EnvLe.nil {E : List (Nat × Value)} : EnvLe E [] := fun _ _ h => (by cases h)
theorem EnvLe.cons {E E' : List (Nat × Value)} {t : Nat} {v v' : Value} (h : look E t = some v) (e : v = v') (l : EnvLe E E') : EnvLe E ((t, v') :: E') := by
  subst e
  intro u x hx
  simp only [look] at hx
  cases hb : Nat.beq t u with
  | true => rw [hb] at hx; have := Nat.eq_of_beq_eq_true hb; subst this; simp at hx; subst hx; exact h
  | false => rw [hb] at hx; exact l u x hx

end Go.Proofs.Ytbaecpddhdeapaa.SL
