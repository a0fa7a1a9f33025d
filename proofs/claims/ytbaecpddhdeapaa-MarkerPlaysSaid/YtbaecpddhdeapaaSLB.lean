/- Judgements on operations, lists of operations and code, and their structural rules. -/
import Derived.Test.YtbaecpddhdeapaaSLA
namespace Go.Proofs.Ytbaecpddhdeapaa.SL
open Go Go.RowKit

section
variable (P : Program) (s : World) (n : Nat)

/-- In this state the operation yields v and does nothing else. -/
def OpQ (E : List (Nat × Value)) (H : List HP) (op : Op) (ty : TypeId) (v : Value) : Prop :=
  ∀ a w, Env a n E → Sat s w (stars H) → ∀ d pos af g, (execOp a.eval ⟨d, op, ty, pos, af, g⟩).run P w = .ok (.value v) w

/-- In this state the operation runs, and what it yields and leaves is told by 'post'. -/
def OpP (E : List (Nat × Value)) (H : List HP) (op : Op) (ty : TypeId) (post : Value → List HP → Prop) : Prop :=
  ∀ a w, Env a n E → Sat s w (stars H) → ∀ d pos af g (next : Act → World → Prop) (Q : Exit → Act → World → Prop),
    (∀ v H' w', post v H' → Sat s w' (stars H') → next (a.put d v) w') → (⟨d, op, ty, pos, af, g⟩ : Oper).wp P a w next Q

/-- It runs, yields v, leaves H'. -/
def OpD (E : List (Nat × Value)) (H : List HP) (op : Op) (ty : TypeId) (v : Value) (H' : List HP) : Prop :=
  ∀ a w, Env a n E → Sat s w (stars H) → ∀ d pos af g, ∃ w' r, (execOp a.eval ⟨d, op, ty, pos, af, g⟩).run P w = .ok r w' ∧ (r = .value v ∨ r = .skip ∧ v = undef) ∧ Sat s w' (stars H')

def RJ (ops : Array Oper) (Q : Exit → Act → World → Prop) (l : List Oper) (E : List (Nat × Value)) (H : List HP) : Prop :=
  ∀ a w, Env a n E → Sat s w (stars H) → wpList P ops Q l a w

def CJ (c : Code) (E : List (Nat × Value)) (H : List HP) (Q : Exit → Act → World → Prop) : Prop :=
  ∀ a w, Env a n E → Sat s w (stars H) → c.wp P Q a w

def NJ (Q : Exit → Act → World → Prop) (e : Exit) (E : List (Nat × Value)) (H : List HP) : Prop :=
  ∀ a w, Env a n E → Sat s w (stars H) → Q e a w
end

section
variable {P : Program} {s : World} {n : Nat} {E E' : List (Nat × Value)} {H H' : List HP} {Q Q' : Exit → Act → World → Prop} {ops : Array Oper} {rest : List Oper}

theorem OpQ.opD {op : Op} {ty : TypeId} {v : Value} (h : OpQ P s n E H op ty v) : OpD P s n E H op ty v H :=
  fun a w he hs d pos af g => ⟨w, _, h a w he hs d pos af g, .inl rfl, hs⟩

theorem OpD.opP {op : Op} {ty : TypeId} {v : Value} (h : OpD P s n E H op ty v H') : OpP P s n E H op ty fun v' H'' => v' = v ∧ H'' = H' := by
  intro a w he hs d pos af g next Q hn
  obtain ⟨w', r, hr, hv, hs'⟩ := h a w he hs d pos af g
  unfold Oper.wp
  rw [hr]
  rcases hv with rfl | ⟨rfl, rfl⟩
  · exact hn _ _ _ ⟨rfl, rfl⟩ hs'
  · exact hn _ _ _ ⟨rfl, rfl⟩ hs'

theorem OpP.mono {op : Op} {ty : TypeId} {post post' : Value → List HP → Prop} (h : OpP P s n E H op ty post) (hp : ∀ v H', post v H' → post' v H') : OpP P s n E H op ty post' :=
  fun a w he hs d pos af g next Q hn => h a w he hs d pos af g next Q fun v H' w' p q => hn v H' w' (hp v H' p) q

/-- Behind an operation: one more slot is known. -/
theorem RJ_p {d : Nat} {op : Op} {ty : TypeId} {pos : String} {af : Array Edge} {post : Value → List HP → Prop} (hd : Nat.ble (d + 1) n = true)
    (h : OpP P s n E H op ty post) (k : ∀ v H', post v H' → RJ P s n ops Q rest ((d, v) :: E) H') : RJ P s n ops Q (⟨some d, op, ty, pos, af, none⟩ :: rest) E H := by
  intro a w he hs
  unfold wpList
  rw [if_pos (by simp [Region.wanted])]
  exact .inl (h a w he hs _ _ _ _ _ _ fun v H' w' hp hs' => k v H' hp _ _ (he.put hd v) hs')

theorem RJ_p0 {op : Op} {ty : TypeId} {pos : String} {af : Array Edge} {post : Value → List HP → Prop}
    (h : OpP P s n E H op ty post) (k : ∀ v H', post v H' → RJ P s n ops Q rest E H') : RJ P s n ops Q (⟨none, op, ty, pos, af, none⟩ :: rest) E H := by
  intro a w he hs
  unfold wpList
  rw [if_pos (by simp [Region.wanted])]
  exact .inl (h a w he hs _ _ _ _ _ _ fun v H' w' hp hs' => k v H' hp _ _ he hs')

theorem RJ_d {d : Nat} {op : Op} {ty : TypeId} {pos : String} {af : Array Edge} {v : Value} (h : OpD P s n E H op ty v H') (hd : Nat.ble (d + 1) n = true)
    (k : RJ P s n ops Q rest ((d, v) :: E) H') : RJ P s n ops Q (⟨some d, op, ty, pos, af, none⟩ :: rest) E H :=
  RJ_p hd h.opP fun _ _ ⟨a, b⟩ => by subst a; subst b; exact k

theorem RJ_d0 {op : Op} {ty : TypeId} {pos : String} {af : Array Edge} {v : Value} (h : OpD P s n E H op ty v H')
    (k : RJ P s n ops Q rest E H') : RJ P s n ops Q (⟨none, op, ty, pos, af, none⟩ :: rest) E H :=
  RJ_p0 h.opP fun _ _ ⟨_, b⟩ => by subst b; exact k

theorem RJ_q {d : Nat} {op : Op} {ty : TypeId} {pos : String} {af : Array Edge} {v : Value} (h : OpQ P s n E H op ty v) (hd : Nat.ble (d + 1) n = true)
    (k : RJ P s n ops Q rest ((d, v) :: E) H) : RJ P s n ops Q (⟨some d, op, ty, pos, af, none⟩ :: rest) E H := RJ_d h.opD hd k

theorem RJ_q0 {op : Op} {ty : TypeId} {pos : String} {af : Array Edge} {v : Value} (h : OpQ P s n E H op ty v)
    (k : RJ P s n ops Q rest E H) : RJ P s n ops Q (⟨none, op, ty, pos, af, none⟩ :: rest) E H := RJ_d0 h.opD k

theorem yielded_of {a : Act} (he : Env a n E) {j t : Nat} {b : Bool} (hj : (ops[j]?).bind (·.dst) = some t) (hl : look E t = some (.bool b)) : yielded ops a.tmps j = some b := by
  have := he.2.2 t _ hl
  simp [yielded, hj, this]

/-- A guarded operation whose guard says yes. -/
theorem RJ_yes {dst : Option Tmp} {op : Op} {ty : TypeId} {pos : String} {af : Array Edge} {j t : Nat} {b want : Bool} (hj : (ops[j]?).bind (·.dst) = some t) (hl : look E t = some (.bool b)) (hb : b = want)
    (k : RJ P s n ops Q (⟨dst, op, ty, pos, af, none⟩ :: rest) E H) : RJ P s n ops Q (⟨dst, op, ty, pos, af, some (j, want)⟩ :: rest) E H := by
  intro a w he hs
  have := k a w he hs
  unfold wpList at this ⊢
  have hy := yielded_of (ops := ops) he hj hl
  rw [if_pos (by simp [Region.wanted])] at this
  rw [if_pos (by simp [Region.wanted, hy, hb])]
  exact this

/-- One whose guard says no: it is passed over. -/
theorem RJ_no {d : Nat} {op : Op} {ty : TypeId} {pos : String} {af : Array Edge} {j t : Nat} {b want : Bool} (b' : Bool) (hj : (ops[j]?).bind (·.dst) = some t) (hl : look E t = some (.bool b)) (hb1 : b = b') (hb2 : b' ≠ want) (hd : Nat.ble (d + 1) n = true)
    (k : RJ P s n ops Q rest ((d, undef) :: E) H) : RJ P s n ops Q (⟨some d, op, ty, pos, af, some (j, want)⟩ :: rest) E H := by
  have hb : b ≠ want := hb1 ▸ hb2
  intro a w he hs
  unfold wpList
  have hy := yielded_of (ops := ops) he hj hl
  rw [if_neg (by simp [Region.wanted, hy, hb])]
  exact k _ _ (he.put hd undef) hs

theorem RJ_nil (k : NJ s n Q .normal E H) : RJ P s n ops Q [] E H := fun a w he hs => k a w he hs
theorem RJ_env (l : EnvLe E E') (k : RJ P s n ops Q rest E' H) : RJ P s n ops Q rest E H := fun a w he hs => k a w (l.env he) hs
theorem RJ_imp (l : Imp H H') (k : RJ P s n ops Q rest E H') : RJ P s n ops Q rest E H := fun a w he hs => k a w he (l.sat hs)
theorem CJ_env {c : Code} (l : EnvLe E E') (k : CJ P s n c E' H Q) : CJ P s n c E H Q := fun a w he hs => k a w (l.env he) hs
theorem CJ_imp {c : Code} (l : Imp H H') (k : CJ P s n c E H' Q) : CJ P s n c E H Q := fun a w he hs => k a w he (l.sat hs)
theorem NJ_env {e : Exit} (l : EnvLe E E') (k : NJ s n Q e E' H) : NJ s n Q e E H := fun a w he hs => k a w (l.env he) hs
theorem NJ_imp {e : Exit} (l : Imp H H') (k : NJ s n Q e E H') : NJ s n Q e E H := fun a w he hs => k a w he (l.sat hs)

/-- A chunk is opened: what it may consist of. -/
def Opens (p : HP) (S : List HP → Prop) : Prop := ∀ h, p h → ∃ l, S l ∧ stars l h

theorem Sat.open {w : World} {p : HP} {S : List HP → Prop} {R : List HP} (o : Opens p S) (pk : Pick H p R) (hs : Sat s w (stars H)) : ∃ l, S l ∧ Sat s w (stars (l ++ R)) := by
  obtain ⟨a, b, c, h, d, h1, h2, e1, f, g, i⟩ := hs.pick pk
  obtain ⟨l, hl, hh⟩ := o h1 e1
  exact ⟨l, hl, a, b, c, h, d, stars_append.2 ⟨h1, h2, hh, f, g, i⟩⟩

theorem RJ_open {p : HP} {S : List HP → Prop} {R : List HP} (o : Opens p S) (pk : Pick H p R) (k : ∀ l, S l → RJ P s n ops Q rest E (l ++ R)) : RJ P s n ops Q rest E H := fun a w he hs => by
  obtain ⟨l, hl, hs'⟩ := Sat.open o pk hs
  exact k l hl a w he hs'
theorem CJ_open {c : Code} {p : HP} {S : List HP → Prop} {R : List HP} (o : Opens p S) (pk : Pick H p R) (k : ∀ l, S l → CJ P s n c E (l ++ R) Q) : CJ P s n c E H Q := fun a w he hs => by
  obtain ⟨l, hl, hs'⟩ := Sat.open o pk hs
  exact k l hl a w he hs'

/-- A fact that the heap tells. -/
theorem CJ_know {c : Code} {φ : Prop} (f : ∀ w, Sat s w (stars H) → φ) (k : φ → CJ P s n c E H Q) : CJ P s n c E H Q := fun a w he hs => k (f w hs) a w he hs
theorem RJ_know {φ : Prop} (f : ∀ w, Sat s w (stars H) → φ) (k : φ → RJ P s n ops Q rest E H) : RJ P s n ops Q rest E H := fun a w he hs => k (f w hs) a w he hs

theorem CJ_seq {x y : Code} (k : CJ P s n x E H (Exit.then (y.wp P Q) Q)) : CJ P s n (.seq x y) E H Q := fun a w he hs => wp_seq (k a w he hs)
theorem CJ_block {id : Nat} {c : Code} (k : CJ P s n c E H (Exit.inBlock id Q)) : CJ P s n (.block id c) E H Q := fun a w he hs => wp_block (k a w he hs)
theorem CJ_exit {id : Nat} (k : NJ s n Q (.exit id) E H) : CJ P s n (.exit id) E H Q := fun a w he hs => wp_exit (k a w he hs)
theorem CJ_ret (k : NJ s n Q .ret E H) : CJ P s n .ret E H Q := fun a w he hs => wp_ret (k a w he hs)
theorem CJ_skip (k : NJ s n Q .normal E H) : CJ P s n .skip E H Q := fun a w he hs => wp_skip (k a w he hs)
theorem CJ_region {id : Nat} {l : List Oper} (k : RJ P s n l.toArray Q l E H) : CJ P s n (.region id l.toArray false) E H Q := fun a w he hs => wp_region_lit (k a w he hs)

theorem CJ_cond {c : Operand} {x y : Code} {b : Bool} (hc : ev E c = some (.bool b)) (kt : b = true → CJ P s n x E H Q) (kf : b = false → CJ P s n y E H Q) : CJ P s n (.cond c x y) E H Q :=
  fun a w he hs => wp_cond_split (he.ev hc) (fun h => kt h a w he hs) (fun h => kf h a w he hs)
theorem CJ_then {c : Operand} {x y : Code} {b : Bool} (hc : ev E c = some (.bool b)) (h : b = true) (kt : CJ P s n x E H Q) : CJ P s n (.cond c x y) E H Q :=
  fun a w he hs => wp_cond_true (h ▸ he.ev hc) (kt a w he hs)
theorem CJ_else {c : Operand} {x y : Code} {b : Bool} (hc : ev E c = some (.bool b)) (h : b = false) (kt : CJ P s n y E H Q) : CJ P s n (.cond c x y) E H Q :=
  fun a w he hs => wp_cond_false (h ▸ he.ev hc) (kt a w he hs)

theorem NJ_then {y : Code} (k : CJ P s n y E H Q) : NJ s n (Exit.then (y.wp P Q) Q') .normal E H := k
theorem NJ_then_x {K : Act → World → Prop} {id : Nat} (k : NJ s n Q (.exit id) E H) : NJ s n (Exit.then K Q) (.exit id) E H := k
theorem NJ_then_r {K : Act → World → Prop} (k : NJ s n Q .ret E H) : NJ s n (Exit.then K Q) .ret E H := k
theorem NJ_blk {id : Nat} (k : NJ s n Q .normal E H) : NJ s n (Exit.inBlock id Q) .normal E H := k
theorem NJ_blk_r {id : Nat} (k : NJ s n Q .ret E H) : NJ s n (Exit.inBlock id Q) .ret E H := k
theorem NJ_blk_hit {id : Nat} (k : NJ s n Q .normal E H) : NJ s n (Exit.inBlock id Q) (.exit id) E H := fun a w he hs => by
  simp only [Exit.inBlock, if_true]; exact k a w he hs
theorem NJ_blk_miss {id id' : Nat} (h : Nat.beq id' id = false) (k : NJ s n Q (.exit id') E H) : NJ s n (Exit.inBlock id Q) (.exit id') E H := fun a w he hs => by
  simp only [Exit.inBlock, Nat.ne_of_beq_eq_false h, if_false]; exact k a w he hs

/-- What a round of a loop owes. -/
def LoopK (s : World) (n : Nat) (Inv : List (Nat × Value) → List HP → Nat → Prop) (m : Nat) : Act → World → Prop := fun a w =>
  ∃ E H m', Inv E H m' ∧ m' < m ∧ Env a n E ∧ Sat s w (stars H)

theorem NJ_back {Inv : List (Nat × Value) → List HP → Nat → Prop} {m m' : Nat} (h : Inv E' H' m') (hm : m' < m) (l : EnvLe E E') (i : Imp H H') : NJ s n (Exit.then (LoopK s n Inv m) Q) .normal E H :=
  fun _ _ he hs => ⟨E', H', m', h, hm, l.env he, i.sat hs⟩

theorem CJ_loop {c : Code} (Inv : List (Nat × Value) → List HP → Nat → Prop) {m : Nat} (h : Inv E' H' m) (l : EnvLe E E') (i : Imp H H')
    (round : ∀ E H m, Inv E H m → CJ P s n c E H (Exit.then (LoopK s n Inv m) Q)) : CJ P s n (.loop c) E H Q := by
  intro a w he hs
  let I : Act → World → Nat → Prop := fun a w m => ∃ E H, Inv E H m ∧ Env a n E ∧ Sat s w (stars H)
  have h0 : ∃ m, I a w m := ⟨m, E', H', h, l.env he, i.sat hs⟩
  clear h l i he hs
  classical
  have wf : ∀ a w, (∃ m, I a w m) → ∃ m, I a w m ∧ ∀ k, I a w k → m ≤ k := by
    intro a w ⟨m, hm⟩
    induction m using Nat.strongRecOn with
    | _ m ih =>
      by_cases hx : ∃ k, k < m ∧ I a w k
      · obtain ⟨k, hk, hi⟩ := hx; exact ih k hk hi
      · refine ⟨m, hm, fun k hk => ?_⟩
        rcases Nat.lt_or_ge k m with y | y
        · exact absurd ⟨k, y, hk⟩ hx
        · exact y
  let μ : Act → World → Nat := fun a w => if hx : ∃ m, I a w m then (wf a w hx).choose else 0
  refine wp_loop (fun a w => ∃ m, I a w m) μ h0 ?_
  intro a w hx
  have hμ : μ a w = (wf a w hx).choose := by simp [μ, hx]
  obtain ⟨E, H, hi, he, hs⟩ := (wf a w hx).choose_spec.1
  refine wp_mono (round E H _ hi a w he hs) ?_
  intro e a' w' hq
  cases e <;> try exact hq
  obtain ⟨E2, H2, m2, hi2, hlt, he2, hs2⟩ := hq
  have hx2 : ∃ m, I a' w' m := ⟨m2, E2, H2, hi2, he2, hs2⟩
  have hle := (wf a' w' hx2).choose_spec.2 m2 ⟨E2, H2, hi2, he2, hs2⟩
  refine ⟨hx2, ?_⟩
  rw [hμ]
  simp only [μ, hx2, dif_pos]
  omega

/-- Two ways meet again: what holds there. -/
theorem CJ_meet {x y : Code} (M : List (Nat × Value) → List HP → Prop) (k : CJ P s n x E H (Exit.then (fun a w => ∃ E H, M E H ∧ Env a n E ∧ Sat s w (stars H)) Q))
    (k2 : ∀ E H, M E H → CJ P s n y E H Q) : CJ P s n (.seq x y) E H Q := fun a w he hs =>
  wp_seq (wp_mono (k a w he hs) fun e a w h => by
    cases e <;> try exact h
    obtain ⟨E, H, hm, he, hs⟩ := h
    exact k2 E H hm a w he hs)
theorem NJ_meet {M : List (Nat × Value) → List HP → Prop} (h : M E' H') (l : EnvLe E E') (i : Imp H H') : NJ s n (Exit.then (fun a w => ∃ E H, M E H ∧ Env a n E ∧ Sat s w (stars H)) Q) .normal E H :=
  fun _ _ he hs => ⟨E', H', h, l.env he, i.sat hs⟩

/-! ### Functions -/

/-- Called with these arguments over these chunks, a function returns what 'post' tells; whatever else there is stays. -/
def Spec (P : Program) (f : FuncId) (args : Array Value) (pre : List HP) (post : Value → List HP → Prop) : Prop :=
  ∀ (s w : World) (R : List HP), Sat s w (stars (pre ++ R)) → Calls P f args w fun e w' => ∃ v C, post v C ∧ e = .returned v ∧ Sat s w' (stars (C ++ R))

def RetP (s : World) (R : List HP) (post : Value → List HP → Prop) : Ending → World → Prop := fun e w' => ∃ v C, post v C ∧ e = .returned v ∧ Sat s w' (stars (C ++ R))

theorem Spec.mono {f : FuncId} {args : Array Value} {pre : List HP} {post post' : Value → List HP → Prop} (h : Spec P f args pre post) (hp : ∀ v C, post v C → post' v C) : Spec P f args pre post' :=
  fun s w R hs => (h s w R hs).mono fun _ _ ⟨v, C, a, b, c⟩ => ⟨v, C, hp v C a, b, c⟩

def envOf : List Value → Nat → List (Nat × Value)
  | [], _ => []
  | v :: l, k => (k, v) :: envOf l (k + 1)

theorem look_envOf : ∀ (l : List Value) (k t : Nat) (v : Value), look (envOf l k) t = some v → k ≤ t ∧ l[t - k]? = some v
  | [], _, _, _, h => (by cases h)
  | x :: l, k, t, v, h => by
    simp only [envOf, look] at h
    cases hb : Nat.beq k t with
    | true => rw [hb] at h; have := Nat.eq_of_beq_eq_true hb; subst this; simp at h; subst h; simp
    | false =>
      rw [hb] at h
      have hne := Nat.ne_of_beq_eq_false hb
      obtain ⟨h1, h2⟩ := look_envOf l (k + 1) t v h
      refine ⟨by omega, ?_⟩
      have : t - k = (t - (k + 1)) + 1 := by omega
      rw [this]; simpa using h2

theorem Spec_intro {f : FuncId} {fn : Func} {c : Code} {args : List Value} {pre : List HP} {post : Value → List HP → Prop}
    (hf : P.funcs[f]? = some fn) (hb : fn.body = some c) (hn : fn.ntmps = n) (hle : Nat.ble args.length n = true)
    (h : ∀ s R, CJ P s n c (envOf args 0) (pre ++ R) (bodyPost P fn (RetP s R post))) : Spec P f args.toArray pre post := by
  intro s w R hs
  refine calls_of_wp hf hb (h s R _ w ⟨rfl, ?_, ?_⟩ hs)
  · have := Nat.le_of_ble_eq_true hle
    simp [hn]; omega
  · intro t v hv
    obtain ⟨_, h2⟩ := look_envOf _ _ _ _ hv
    have hlt : t < args.length := by
      have := (List.getElem?_eq_some_iff.1 h2).1; simpa using this
    simp only [Nat.sub_zero] at h2
    simp [Array.getElem?_append, hlt]
    exact (List.getElem?_eq_some_iff.1 h2).2

def resOne (tmps : Array Value) : ResultVar → Sem Value
  | .tmp t => pure (tmps.getD t undef)
  | .cell x t => do loadVar t (← asAddr (tmps.getD x undef))

/-- The results read. -/
def ResJ (P : Program) (s : World) (n : Nat) (E : List (Nat × Value)) (H : List HP) (rs : List ResultVar) (vs : List Value) : Prop :=
  ∀ a w, Env a n E → Sat s w (stars H) → (rs.mapM (resOne a.tmps)).run P w = .ok vs w

theorem ResJ_nil : ResJ P s n E H [] [] := fun _ _ _ _ => rfl
theorem ResJ_tmp {t : Nat} {v : Value} {rs : List ResultVar} {vs : List Value} (hl : look E t = some v) (k : ResJ P s n E H rs vs) : ResJ P s n E H (.tmp t :: rs) (v :: vs) := by
  intro a w he hs
  have h1 := he.2.2 t v hl
  have h2 := k a w he hs
  have h0 : resOne a.tmps (.tmp t) = pure v := by simp [resOne, Array.getD_eq_getD_getElem?, h1]
  simp only [List.mapM_cons, h0, Sem.run_bind]
  simp [h2]

/-- In every world over these chunks a variable reads as v. -/
def LoadJ (P : Program) (s : World) (H : List HP) (t : TypeId) (p : Addr) (v : Value) : Prop := ∀ w, Sat s w (stars H) → (loadVar t p).run P w = .ok v w

theorem ResJ_cell {x : Nat} {t : TypeId} {p : Addr} {v : Value} {rs : List ResultVar} {vs : List Value} (hl : look E x = some (.pointer (some p))) (hv : LoadJ P s H t p v) (k : ResJ P s n E H rs vs) :
    ResJ P s n E H (.cell x t :: rs) (v :: vs) := by
  intro a w he hs
  have h1 := he.2.2 x _ hl
  have h2 := k a w he hs
  have h3 := hv w hs
  have h0 : resOne a.tmps (.cell x t) = loadVar t p := by
    simp [resOne, Array.getD_eq_getD_getElem?, h1, asAddr]
  simp only [List.mapM_cons, h0, Sem.run_bind, h3]
  simp [h2]

def packRes : List Value → Value
  | [v] => v
  | vs => .tuple vs.toArray

theorem NJ_ret {fn : Func} {R : List HP} {post : Value → List HP → Prop} {rs : List ResultVar} {vs : List Value} {C : List HP} {e : Exit} (he : e = .ret ∨ e = .normal)
    (hr : fn.results = rs.toArray) (hv : ResJ P s n E H rs vs) (hp : post (packRes vs) C) (hi : Imp H (C ++ R)) : NJ s n (bodyPost P fn (RetP s R post)) e E H := by
  intro a w ha hs
  have hrun : (results fn a.tmps).run P w = .ok (packRes vs) w := by
    have := hv a w ha hs
    have hres : results fn a.tmps = (rs.mapM (resOne a.tmps)).bind fun l => pure (if h : l.length = 1 then l[0] else .tuple l.toArray) := by
      unfold results
      rw [hr, List.mapM_toArray]
      have hf : (fun | .tmp t => (pure (a.tmps.getD t undef) : Sem Value) | .cell x t => do loadVar t (← asAddr (a.tmps.getD x undef)) : ResultVar → Sem Value) = resOne a.tmps := by
        funext r; cases r <;> rfl
      show (List.toArray <$> List.mapM (fun | .tmp t => (pure (a.tmps.getD t undef) : Sem Value) | .cell x t => do loadVar t (← asAddr (a.tmps.getD x undef)) : ResultVar → Sem Value) rs >>= _) = _
      rw [hf, map_eq_pure_bind, bind_assoc]
      rfl
    rw [hres]
    show ((rs.mapM (resOne a.tmps)) >>= _).run P w = _
    rw [Sem.run_bind, this]
    match vs with
    | [] => rfl
    | [v] => rfl
    | v :: u :: l => rfl
  have hR : RetP s R post (.returned (packRes vs)) w := ⟨_, C, hp, rfl, hi.sat hs⟩
  rcases he with rfl | rfl
  · exact ⟨ha.1, _, hrun, hR⟩
  · exact ⟨ha.1, _, hrun, hR⟩

/-- A call of a named function, by its contract: the chunks C of H that it takes, the rest R. -/
theorem Op_call {f : FuncId} {fn : Func} {xs : List Operand} {vs : List Value} {ats : Array TypeId} {ty : TypeId} {pre R : List HP} {post : Value → List HP → Prop}
    (hf : P.funcs[f]? = some fn) (hb : fn.body.isSome = true) (hn : (fn.name == "runtime.NumGoroutine") = false) (sp : Spec P f vs.toArray pre post) (hx : xs.map (ev E) = vs.map some) (hi : Imp H (pre ++ R)) :
    OpP P s n E H (.call { callee := .value (.func f), args := xs.toArray, argTypes := ats }) ty fun v H' => ∃ C, post v C ∧ H' = C ++ R := by
  intro a w he hs d pos af g next Q hnx
  have hargs : xs.map a.eval = vs := by
    clear sp
    induction xs generalizing vs with
    | nil => cases vs <;> simp_all
    | cons x xs ih =>
      cases vs with
      | nil => simp at hx
      | cons v vs =>
        simp only [List.map_cons, List.cons.injEq] at hx
        simp [he.ev hx.1, ih hx.2]
  have hrun : (execOp a.eval ⟨d, .call { callee := .value (.func f), args := xs.toArray, argTypes := ats }, ty, pos, af, g⟩).run P w = .ok (.enter f vs.toArray) w := by
    have hbn : fn.body.isNone = false := by cases h : fn.body <;> simp_all
    have h1 : a.eval (.func f) = .func (.func f) #[] #[] := rfl
    have h2 : (callFunc f vs.toArray).run P w = .ok (.enter f vs.toArray) w := by
      have hp : program.run P w = .ok P w := rfl
      unfold callFunc
      rw [Sem.run_bind, hp]
      simp only [Result.andThen_ok, hf, hn, hbn, Bool.false_eq_true, if_false]
      rfl
    simp [execOp, resolve, h1, Deferred.ofValue, invoke, hargs, h2]
  unfold Oper.wp
  rw [hrun]
  refine (sp s w R (hi.sat hs)).mono ?_
  rintro e w' ⟨v, C, hp, rfl, hs'⟩
  exact hnx v _ w' ⟨C, hp, rfl⟩ hs'

theorem RJ_app0 {R : List HP} (k : RJ P s n ops Q rest E R) : RJ P s n ops Q rest E ([] ++ R) := k
theorem RJ_app1 {A : HP} {R : List HP} (k : RJ P s n ops Q rest E (A :: R)) : RJ P s n ops Q rest E ([A] ++ R) := k
theorem RJ_app2 {A B : HP} {R : List HP} (k : RJ P s n ops Q rest E (A :: B :: R)) : RJ P s n ops Q rest E ([A, B] ++ R) := k
theorem RJ_app3 {A B C : HP} {R : List HP} (k : RJ P s n ops Q rest E (A :: B :: C :: R)) : RJ P s n ops Q rest E ([A, B, C] ++ R) := k
theorem RJ_app4 {A B C D : HP} {R : List HP} (k : RJ P s n ops Q rest E (A :: B :: C :: D :: R)) : RJ P s n ops Q rest E ([A, B, C, D] ++ R) := k
theorem NJ_app1 {e : Exit} {A : HP} {R : List HP} (k : NJ s n Q e E (A :: R)) : NJ s n Q e E ([A] ++ R) := k
theorem CJ_app0 {c : Code} {R : List HP} (k : CJ P s n c E R Q) : CJ P s n c E ([] ++ R) Q := k
theorem CJ_app1 {c : Code} {A : HP} {R : List HP} (k : CJ P s n c E (A :: R) Q) : CJ P s n c E ([A] ++ R) Q := k
theorem CJ_app2 {c : Code} {A B : HP} {R : List HP} (k : CJ P s n c E (A :: B :: R) Q) : CJ P s n c E ([A, B] ++ R) Q := k
theorem CJ_app3 {c : Code} {A B C : HP} {R : List HP} (k : CJ P s n c E (A :: B :: C :: R) Q) : CJ P s n c E ([A, B, C] ++ R) Q := k
theorem CJ_app4 {c : Code} {A B C D : HP} {R : List HP} (k : CJ P s n c E (A :: B :: C :: D :: R) Q) : CJ P s n c E ([A, B, C, D] ++ R) Q := k
theorem CJ_app5 {c : Code} {A B C D F : HP} {R : List HP} (k : CJ P s n c E (A :: B :: C :: D :: F :: R) Q) : CJ P s n c E ([A, B, C, D, F] ++ R) Q := k
theorem CJ_app6 {c : Code} {A B C D F G : HP} {R : List HP} (k : CJ P s n c E (A :: B :: C :: D :: F :: G :: R) Q) : CJ P s n c E ([A, B, C, D, F, G] ++ R) Q := k
theorem CJ_envOf {c : Code} {l : List Value} (k : CJ P s n c (envOf l 0) H Q) : CJ P s n c (envOf l 0) H Q := k
end
end Go.Proofs.Ytbaecpddhdeapaa.SL
