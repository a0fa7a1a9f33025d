/- The laws of package node: the example, answers compared, what is told of a marked key. -/
import Derived.Test.Ytgakbdofjlhoeaas21Fb
import Derived.Test.Ytgakbdofjlhoeaas21NdW
namespace Go.Proofs.Ytgakbdofjlhoeaa.SL
open Go Go.RowKit

def sameV (a b : ItemV) : Bool := decide (a.ep = b.ep ∧ a.ix = b.ix ∧ a.th = b.th ∧ a.tx = b.tx)
theorem EqJ_val (d : Nat) (a b : ItemV) : EqJ Try.prog (d + 3) 29 (valV a) (valV b) (sameV a b) :=
  (EqJ_struct Try.underlying29 (by kernel_rfl) (.cons rfl (PartJ_struct (vs := [.int .i64 a.ep, .int .i64 a.ix]) Try.underlying27 sz27 rfl) (PartJ_struct (vs := [.int .i64 b.ep, .int .i64 b.ix]) Try.underlying27 sz27 rfl)
      (EqJ_struct Try.underlying27 (by kernel_rfl) (.cons rfl (PartJ_cell Try.underlying3 rfl .z) (PartJ_cell Try.underlying3 rfl .z) (EqJ_int Try.underlying3)
        (.cons rfl (PartJ_cell Try.underlying3 rfl (.s .z)) (PartJ_cell Try.underlying3 rfl (.s .z)) (EqJ_int Try.underlying3) .nil)))
    (.cons rfl (PartJ_cell Try.underlying4 rfl (.s (.s .z))) (PartJ_cell Try.underlying4 rfl (.s (.s .z))) (EqJ_bool Try.underlying4)
      (.cons rfl (PartJ_cell Try.underlying9 rfl (.s (.s (.s .z)))) (PartJ_cell Try.underlying9 rfl (.s (.s (.s .z)))) (EqJ_str Try.underlying9) .nil)))).to (by
    unfold sameV
    rw [Bool.eq_iff_iff]
    simp [and_assoc])
def sameA (a b : AnsV) : Bool := decide (a.kind = b.kind) && (sameV a.val b.val && (decide (a.val.asOf = b.val.asOf) && (decide (a.token = b.token) && true)))
theorem EqJ_ans (a b : AnsV) : EqJ Try.prog 10000 31 (ansV a) (ansV b) (sameA a b) :=
  EqJ_struct Try.underlying31 (by kernel_rfl) (.cons rfl (PartJ_cell Try.underlying3 rfl .z) (PartJ_cell Try.underlying3 rfl .z) (EqJ_int Try.underlying3)
    (.cons rfl (PartJ_struct (vs := [.int .i64 a.val.ep, .int .i64 a.val.ix, .bool a.val.th, .string a.val.tx]) Try.underlying29 sz29 rfl) (PartJ_struct (vs := [.int .i64 b.val.ep, .int .i64 b.val.ix, .bool b.val.th, .string b.val.tx]) Try.underlying29 sz29 rfl) (EqJ_val 9996 a.val b.val)
      (.cons rfl (PartJ_cell Try.underlying3 rfl (.s (.s (.s (.s (.s .z)))))) (PartJ_cell Try.underlying3 rfl (.s (.s (.s (.s (.s .z)))))) (EqJ_int Try.underlying3)
        (.cons rfl (PartJ_cell Try.underlying2 rfl (.s (.s (.s (.s (.s (.s .z))))))) (PartJ_cell Try.underlying2 rfl (.s (.s (.s (.s (.s (.s .z))))))) (EqJ_int Try.underlying2) .nil))))
theorem sameV_self (a : ItemV) : sameV a a = true := by simp [sameV]
theorem sameA_self (a : AnsV) : sameA a a = true := by simp [sameA, sameV_self]
/-- A Look compared with another one. -/
theorem EqJ_look (a1 a2 a3 a4 a5 b1 b2 b3 b4 b5 : Int) (a6 b6 : Bool) : EqJ Try.prog 10000 42 (.agg #[.int .i64 a1, .int .i64 a2, .int .i64 a3, .int .i64 a4, .int .i64 a5, .bool a6]) (.agg #[.int .i64 b1, .int .i64 b2, .int .i64 b3, .int .i64 b4, .int .i64 b5, .bool b6])
    (decide (a1 = b1) && (decide (a2 = b2) && (decide (a3 = b3) && (decide (a4 = b4) && (decide (a5 = b5) && (decide (a6 = b6) && true)))))) :=
  EqJ_struct Try.underlying42 (by kernel_rfl) (.cons rfl (PartJ_cell Try.underlying3 rfl .z) (PartJ_cell Try.underlying3 rfl .z) (EqJ_int Try.underlying3)
    (.cons rfl (PartJ_cell Try.underlying3 rfl (.s .z)) (PartJ_cell Try.underlying3 rfl (.s .z)) (EqJ_int Try.underlying3)
    (.cons rfl (PartJ_cell Try.underlying3 rfl (.s (.s .z))) (PartJ_cell Try.underlying3 rfl (.s (.s .z))) (EqJ_int Try.underlying3)
    (.cons rfl (PartJ_cell Try.underlying3 rfl (.s (.s (.s .z)))) (PartJ_cell Try.underlying3 rfl (.s (.s (.s .z)))) (EqJ_int Try.underlying3)
    (.cons rfl (PartJ_cell Try.underlying3 rfl (.s (.s (.s (.s .z))))) (PartJ_cell Try.underlying3 rfl (.s (.s (.s (.s .z))))) (EqJ_int Try.underlying3)
    (.cons rfl (PartJ_cell Try.underlying4 rfl (.s (.s (.s (.s (.s .z)))))) (PartJ_cell Try.underlying4 rfl (.s (.s (.s (.s (.s .z)))))) (EqJ_bool Try.underlying4) .nil))))))

/-! the document's example -/
abbrev keyA : ByteArray := ⟨#[97]⟩
abbrev itemA : ItemV := ⟨0, 0, true, ⟨#[118]⟩, 3⟩
def aw1 : NodeS := ⟨[], [], 1000, 0, [(keyA, ⟨1, 10⟩)], 1, [], 0, false, 0⟩
def aw2 : NodeS := ⟨[], [⟨keyA, itemA, 34⟩], 1000, 0, [], 1, [], 0, false, 0⟩
def aw3 : NodeS := ⟨[], [], 1000, 0, [], 1, [], 0, false, 0⟩
def aw4 : NodeS := ⟨[], [], 1000, 0, [(keyA, ⟨2, 10⟩)], 2, [], 0, false, 0⟩
def aw5 : NodeS := ⟨[⟨keyA, 1, 1⟩], [], 1000, 33, [(keyA, ⟨2, 10⟩)], 2, [], 0, false, 0⟩
theorem awe1 : getN keyA (newN 1000 0) = (⟨3, zeroI, 1⟩, aw1) := by rfl
theorem awe2 : fillN keyA 1 itemA aw1 = (true, aw2) := by rfl
theorem awe3 : getN keyA aw2 = (⟨1, itemA, 0⟩, aw2) := by rfl
theorem awe4 : invN keyA 4 aw2 = aw3 := by rfl
theorem awe5 : getN keyA aw3 = (⟨3, zeroI, 2⟩, aw4) := by rfl
theorem awe6 : markN ⟨keyA, 1, 1⟩ aw4 = (true, aw5) := by rfl
theorem awe7 : getN keyA aw5 = (⟨2, zeroI, 0⟩, aw5) := by rfl
theorem awo0 : NOk 0 (newN 1000 0) := .new 1000 0 (by decide)
theorem awo1 : NOk 1 aw1 := by have := awo0.get keyA; rwa [awe1] at this
theorem awo2 : NOk 2 aw2 := by have := awo1.fill keyA 1 itemA; rwa [awe2] at this
theorem awo3 : NOk 2 aw3 := by have := awo2.inv keyA 4; rwa [awe4] at this
theorem awo4 : NOk 3 aw4 := by have := awo3.get keyA; rwa [awe5] at this
theorem awo5 : NOk 3 aw5 := by have := awo4.mark ⟨keyA, 1, 1⟩; rwa [awe6] at this

/-! things in a cache, when nothing is pushed out -/
theorem stay_all {lim : Int} {L : List It} (h : szs L ≤ lim) : stay lim L L.length = L.length := by
  cases hl : L.length with
  | zero => rfl
  | succ j =>
    unfold stay
    have : L.take (j + 1) = L := List.take_of_length_le (by omega)
    rw [this, if_neg (by omega)]
theorem dropK_szs_le {key : ByteArray} {L : List It} (h : ∀ t ∈ L, 0 ≤ t.size) : szs (dropK key L) ≤ szs L := dropK_szs h
theorem putR_fits {L : List It} {room kept : Int} {t : It} (h0 : ∀ x ∈ L, 0 ≤ x.size) (h1 : 0 ≤ t.size) (h2 : szs L + t.size + kept ≤ room) : putR L room kept t = ([], true, t :: dropK t.key L) := by
  have hd := dropK_szs (k := t.key) h0
  have hn := szs_nonneg h0
  unfold putR
  rw [if_neg (by omega), stay_all (by omega), List.take_length]
  have : goneFrom (dropK t.key L) (dropK t.key L).length = [] := by unfold goneFrom; rw [List.drop_length]; rfl
  rw [this]
theorem resR_fits {L : List It} {room kept n : Int} (h0 : ∀ x ∈ L, 0 ≤ x.size) (h1 : 0 ≤ n) (h2 : szs L + n + kept ≤ room) : resR L room kept n = ([], true, L, kept + n) := by
  have hn := szs_nonneg h0
  unfold resR
  rw [if_neg (by omega), stay_all (by omega), List.take_length]
  have : goneFrom L L.length = [] := by unfold goneFrom; rw [List.drop_length]; rfl
  rw [this]
theorem findK_drop {key k2 : ByteArray} {L : List It} (h : ¬ k2 = key) : findK key (dropK k2 L) = findK key L := by
  induction L with
  | nil => rfl
  | cons x l ih =>
    by_cases h2 : x.key = k2
    · have h3 : ¬ x.key = key := fun e => h (h2 ▸ e)
      simp [dropK, findK, h2, h]
    · simp only [dropK, findK, List.eraseP_cons, h2, decide_false, cond_false, List.find?_cons] at ih ⊢
      by_cases h3 : x.key = key
      · simp [h3]
      · simp only [h3, decide_false]; exact ih
theorem findK_cons {key : ByteArray} {t : It} {L : List It} (h : ¬ t.key = key) : findK key (t :: L) = findK key L := by simp [findK, h]
theorem dropK_found {key : ByteArray} {L : List It} {t : It} (h : findK key L = some t) : (dropK key L).length + 1 = L.length := by
  have h2 := findK_key h
  unfold dropK
  rw [List.length_eraseP_of_mem h2.2 (by simpa using h2.1)]
  have := List.length_pos_of_mem h2.2
  omega
theorem szs_most {L : List It} {m : Int} (h : ∀ t ∈ L, t.size ≤ m) : szs L ≤ m * (L.length : Int) := by
  induction L with
  | nil => simp [szs]
  | cons x l ih =>
    have h1 := h x (by simp)
    have h2 := ih fun t ht => h t (by simp [ht])
    rw [szs_cons, List.length_cons, Int.natCast_add, Int.mul_add]
    omega

/-! as long as a key has a marker -/
abbrev itemX : ItemV := ⟨0, 0, true, ⟨#[120]⟩, 1⟩
structure MInv (key : ByteArray) (ses : Int) (i : Nat) (N : NodeS) : Prop where
  ok : NOk (2 * i + 5) N
  mks : N.marks = [⟨key, ses, 5⟩]
  it : ∃ t, findK key N.items = some t ∧ t.val = itemX
  sz : ∀ t ∈ N.items, t.size ≤ 2032
  ln : N.items.length ≤ i + 1
  rm : N.room = 100000
  kp : N.kept = (key.size : Int) + 32
  ks : key.size ≤ 1000
theorem MInv.has {key : ByteArray} {ses : Int} {i : Nat} {N : NodeS} (h : MInv key ses i N) (lb : ByteArray) : hasR lb N.marks = decide (key = lb) := by simp [hasR, h.mks]
theorem MInv.get_key {key : ByteArray} {ses : Int} {i : Nat} {N : NodeS} (h : MInv key ses i N) {lb : ByteArray} (e : lb = key) : getN lb N = (⟨2, zeroI, 0⟩, N) := by
  unfold getN; rw [if_pos (by rw [h.has]; simp [e])]
theorem MInv.peek_key {key : ByteArray} {ses : Int} {i : Nat} {N : NodeS} (h : MInv key ses i N) : peekN key N = (zeroI, false) := by
  unfold peekN; rw [if_pos (by rw [h.has]; simp)]
theorem MInv.unmark {key : ByteArray} {ses : Int} {i : Nat} {N : NodeS} (h : MInv key ses i N) (lb : ByteArray) {r : Int} (hr : r ≠ 5) : unmarkN ⟨lb, ses, r⟩ N = (false, N) := by
  unfold unmarkN; rw [if_neg (by rw [h.mks]; simp; exact fun _ => hr)]
theorem MInv.more {key : ByteArray} {ses : Int} {i : Nat} {N : NodeS} (h : MInv key ses i N) : MInv key ses (i + 1) N :=
  { h with ok := h.ok.more (by omega), ln := Nat.le_succ_of_le h.ln }
/-- Between a Get and its Fill. -/
structure MMid (key : ByteArray) (ses : Int) (i : Nat) (N : NodeS) : Prop where
  ok : NOk (2 * i + 6) N
  mks : N.marks = [⟨key, ses, 5⟩]
  it : ∃ t, findK key N.items = some t ∧ t.val = itemX
  sz : ∀ t ∈ N.items, t.size ≤ 2032
  ln : N.items.length ≤ i + 1
  rm : N.room = 100000
  kp : N.kept = (key.size : Int) + 32
  ks : key.size ≤ 1000
theorem MInv.get {key : ByteArray} {ses : Int} {i : Nat} {N : NodeS} (h : MInv key ses i N) {lb : ByteArray} (hl : ¬ lb = key) : MMid key ses i (getN lb N).2 ∧ (getN lb N).1.kind ≠ 2 := by
  have hh : ¬ hasR lb N.marks = true := by rw [h.has]; simp [Ne.symm hl]
  have ho := h.ok.get lb
  unfold getN at ho ⊢
  rw [if_neg hh] at ho ⊢
  cases hf : findK lb N.items with
  | none => rw [hf] at ho; exact ⟨⟨ho, h.mks, h.it, h.sz, h.ln, h.rm, h.kp, h.ks⟩, by simp⟩
  | some t =>
    rw [hf] at ho
    have hk := findK_key hf
    have hlen := dropK_found hf
    obtain ⟨u, hu, hv⟩ := h.it
    refine ⟨⟨ho, h.mks, ⟨u, ?_, hv⟩, fun x hx => ?_, ?_, h.rm, h.kp, h.ks⟩, by simp⟩
    · simp only
      rw [findK_cons (by rw [hk.1]; exact hl), findK_drop hl, hu]
    · rcases List.mem_cons.1 hx with rfl | hx
      · exact h.sz _ hk.2
      · exact h.sz x (dropK_mem hx)
    · have := h.ln
      simp only [List.length_cons]; omega
theorem MMid.fill {key : ByteArray} {ses : Int} {i : Nat} {N : NodeS} (h : MMid key ses i N) (hi : i < 40) {lb : ByteArray} (hl : ¬ lb = key) (hb : lb.size ≤ 1000) (tok : Int) : MInv key ses (i + 1) (fillN lb tok ⟨0, 0, true, lb, i⟩ N).2 := by
  have ho := h.ok.fill lb tok ⟨0, 0, true, lb, i⟩
  have base : MInv key ses (i + 1) N := ⟨h.ok.more (by omega), h.mks, h.it, h.sz, Nat.le_succ_of_le h.ln, h.rm, h.kp, h.ks⟩
  have hpos := h.ok.it.pos
  have hks := h.ks
  have hszs : szs N.items ≤ 2032 * (N.items.length : Int) := szs_most h.sz
  have hln := h.ln
  have hfit : szs N.items + sizeI lb ⟨0, 0, true, lb, i⟩ + N.kept ≤ N.room := by
    rw [h.rm, h.kp]; unfold sizeI; simp only; omega
  have put : ∀ M : NodeS, M.items = N.items → M.room = N.room → M.kept = N.kept → M.marks = N.marks → NOk (2 * (i + 1) + 5) (putN' lb ⟨0, 0, true, lb, i⟩ M).2 → MInv key ses (i + 1) (putN' lb ⟨0, 0, true, lb, i⟩ M).2 := by
    intro M e1 e2 e3 e4 hM
    have hp : putR M.items M.room M.kept ⟨lb, ⟨0, 0, true, lb, i⟩, sizeI lb ⟨0, 0, true, lb, i⟩⟩ = ([], true, ⟨lb, ⟨0, 0, true, lb, i⟩, sizeI lb ⟨0, 0, true, lb, i⟩⟩ :: dropK lb N.items) := by
      rw [e1, e2, e3]
      exact putR_fits hpos (by unfold sizeI; simp only; omega) hfit
    obtain ⟨u, hu, hv⟩ := h.it
    have hit : (putN' lb ⟨0, 0, true, lb, i⟩ M).2.items = ⟨lb, ⟨0, 0, true, lb, i⟩, sizeI lb ⟨0, 0, true, lb, i⟩⟩ :: dropK lb N.items := by
      show (putR M.items M.room M.kept _).2.2 = _
      rw [hp]
    refine ⟨hM, by show M.marks = _; rw [e4]; exact h.mks, ⟨u, ?_, hv⟩, fun x hx => ?_, ?_, by show M.room = _; rw [e2]; exact h.rm, by show M.kept = _; rw [e3]; exact h.kp, h.ks⟩
    · rw [hit, findK_cons hl, findK_drop hl, hu]
    · rw [hit] at hx
      rcases List.mem_cons.1 hx with rfl | hx
      · show sizeI lb _ ≤ 2032; unfold sizeI; simp only; omega
      · exact h.sz x (dropK_mem hx)
    · rw [hit, List.length_cons]
      have := dropK_len lb N.items
      omega
  have ho' : NOk (2 * (i + 1) + 5) (fillN lb tok ⟨0, 0, true, lb, i⟩ N).2 := ho.more (by omega)
  unfold fillN at ho' ⊢
  split
  · rename_i hu
    rw [if_pos hu] at ho'
    unfold putN at ho' ⊢
    split
    · rename_i t ht
      simp only [ht] at ho'
      split
      · rename_i hle
        rw [if_pos hle] at ho'
        exact ⟨ho', h.mks, h.it, h.sz, Nat.le_succ_of_le h.ln, h.rm, h.kp, h.ks⟩
      · rename_i hle
        rw [if_neg hle] at ho'
        exact put { N with lease := (useR lb tok N.lease).2 } rfl rfl rfl rfl ho'
    · rename_i ht
      simp only [ht] at ho'
      exact put { N with lease := (useR lb tok N.lease).2 } rfl rfl rfl rfl ho'
  · exact base
/-- The beginning. -/
def mN1 (key : ByteArray) : NodeS := ⟨[], [], 100000, 0, [(key, ⟨1, 10⟩)], 1, [], 0, false, 0⟩
def mN2 (key : ByteArray) : NodeS := ⟨[], [⟨key, itemX, sizeI key itemX⟩], 100000, 0, [], 1, [], 0, false, 0⟩
def mN3 (key : ByteArray) (ses : Int) : NodeS := ⟨[⟨key, ses, 5⟩], [⟨key, itemX, sizeI key itemX⟩], 100000, over key, [], 1, [], 0, false, 0⟩
theorem mNe1 (key : ByteArray) : getN key (newN 100000 0) = (⟨3, zeroI, 1⟩, mN1 key) := by rfl
theorem mNo0 : NOk 0 (newN 100000 0) := .new 100000 0 (by decide)
theorem mNo1 (key : ByteArray) : NOk 1 (mN1 key) := by have := mNo0.get key; rwa [mNe1] at this
theorem sizeX (key : ByteArray) : sizeI key itemX = (key.size : Int) + 33 := by
  show (key.size : Int) + ((1 : Nat) : Int) + 32 = _
  omega
theorem mNe2 {key : ByteArray} (hk : key.size ≤ 1000) : fillN key 1 itemX (mN1 key) = (true, mN2 key) := by
  have h1 : useR key 1 [(key, (⟨1, 10⟩ : One))] = (true, []) := by simp [useR, aget, adel]
  have h2 : putR [] 100000 0 ⟨key, itemX, sizeI key itemX⟩ = ([], true, [⟨key, itemX, sizeI key itemX⟩]) := by
    refine putR_fits (by simp) ?_ ?_
    · show 0 ≤ sizeI key itemX; rw [sizeX]; omega
    · show szs [] + sizeI key itemX + 0 ≤ 100000; rw [sizeX]; unfold szs; simp only [List.map_nil, List.sum_nil]; omega
  unfold fillN
  simp only [mN1, h1, if_true]
  unfold putN
  simp only [show findK key [] = none from rfl, putN', h2]
  rfl
theorem mNo2 {key : ByteArray} (hk : key.size ≤ 1000) : NOk 2 (mN2 key) := by have := (mNo1 key).fill key 1 itemX; rwa [mNe2 hk] at this
theorem mNe3 {key : ByteArray} (hk : key.size ≤ 1000) (ses : Int) : markN ⟨key, ses, 5⟩ (mN2 key) = (true, mN3 key ses) := by
  have h2 : resR [⟨key, itemX, sizeI key itemX⟩] 100000 0 (over key) = ([], true, [⟨key, itemX, sizeI key itemX⟩], 0 + over key) := by
    refine resR_fits ?_ ?_ ?_
    · intro x hx; simp at hx; subst hx; show 0 ≤ sizeI key itemX; rw [sizeX]; omega
    · unfold over; omega
    · show szs [⟨key, itemX, sizeI key itemX⟩] + over key + 0 ≤ 100000; simp only [szs, List.map_cons, List.map_nil, List.sum_cons, List.sum_nil, sizeX]; unfold over; omega
  unfold markN
  simp only [mN2, h2]
  simp [mN3]
theorem mStart {key : ByteArray} (hk : key.size ≤ 1000) (ses : Int) : MInv key ses 0 (mN3 key ses) := by
  have h := (mNo2 hk).mark ⟨key, ses, 5⟩
  rw [mNe3 hk] at h
  refine ⟨h.more (by omega), rfl, ⟨_, by simp [mN3, findK]; rfl, rfl⟩, fun t ht => ?_, by simp [mN3], rfl, rfl, hk⟩
  simp [mN3] at ht; subst ht; show sizeI key itemX ≤ 2032; rw [sizeX]; omega
/-- The end. -/
theorem MInv.clear {key : ByteArray} {ses : Int} {i : Nat} {N : NodeS} (h : MInv key ses i N) : unmarkN ⟨key, ses, 5⟩ N = (true, { N with marks := [], kept := relR N.kept (over key) }) := by
  unfold unmarkN; rw [if_pos (by simp [h.mks])]
  simp [h.mks]
theorem MInv.peek {key : ByteArray} {ses : Int} {i : Nat} {N : NodeS} (h : MInv key ses i N) (k : Int) : peekN key { N with marks := [], kept := k } = (itemX, true) := by
  obtain ⟨t, ht, hv⟩ := h.it
  unfold peekN
  simp only [hasR, List.any_nil, Bool.false_eq_true, if_false]
  rw [ht]; simp [hv]
theorem tmod5 (i : Nat) : (i : Int).tmod 5 ≠ 5 := by rw [Int.tmod_eq_emod_of_nonneg (by omega)]; omega
/-- The texts as they lie in the world W. -/
def StrsAt (W : World) (a : Option Addr) (xs : List ByteArray) : Prop := ∀ i b, xs[i]? = some b → ∃ p, a = some p ∧ W.cell? (p.add (i * 1)) = some (.string b)
end Go.Proofs.Ytgakbdofjlhoeaa.SL
