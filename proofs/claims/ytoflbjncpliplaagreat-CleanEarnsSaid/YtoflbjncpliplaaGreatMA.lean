/- Part MA of the walks that a statement of this seat is proved by: laws of memory, then the functions one by one. -/
import Derived.WalkKit
import Derived.OrdersHeld
import Derived.Maps.AppendAt
import Derived.Laws.Tables
import Derived.Laws.MakeOwn
import Derived.Laws.Pointers
import Derived.Laws.Cover3
import Derived.Great.BuildSlice
import Derived.Laws.IdiomStrings
namespace Go.Proofs.YE
open Go

/-- What is known of the temporaries: the newest first. -/
abbrev Slots := List (Nat × Value)
def Slots.get : Slots → Nat → Option Value
  | [], _ => none
  | (k, v) :: r, t => match Nat.beq k t with
    | true => some v
    | false => Slots.get r t

/-- A block's content: cells as a list. -/
inductive HO where
  | cells (l : List Value) (e : TypeId) (z : Nat × Nat)
  | map (es : List MapEntry) (clk : Nat)
  | obj (o : Obj)
def HO.obj' : HO → Obj
  | .cells l e z => .cells l.toArray e z
  | .map es c => .map es.toArray c
  | .obj o => o

abbrev Heap := List (Nat × HO)
/-- A heap in pieces. -/
abbrev Hs := List Heap
def keys (H : Heap) : List Nat := H.map Prod.fst

def Has (w : World) (H : Heap) : Prop := (∀ b o, (b, o) ∈ H → w.heap[b]? = some o.obj') ∧ (keys H).Nodup

structure Keep (K : List Nat) (w w' : World) : Prop where
  os : w'.os = w.os
  tape : w'.tape = w.tape
  output : w'.output = w.output
  size : w.heap.size ≤ w'.heap.size
  block : ∀ b, b < w.heap.size → b ∉ K → w'.heap[b]? = w.heap[b]?

theorem Keep.refl (K : List Nat) (w : World) : Keep K w w := ⟨rfl, rfl, rfl, Nat.le_refl _, fun _ _ _ => rfl⟩
theorem Keep.below {w w' : World} (h : Keep [] w w') : RowKit.Below w.heap.size w w' :=
  ⟨h.os, h.tape, h.output, h.size, fun b hb => h.block b hb (by simp)⟩

/-- Where a walk began: the world, the blocks that it may turn, how many temporaries. -/
structure Cx where
  w0 : World
  K0 : List Nat
  n : Nat

structure St (w0 : World) (K0 : List Nat) (w : World) (H : Heap) : Prop where
  has : Has w H
  keep : Keep K0 w0 w
  fresh : ∀ k, k ∈ keys H → k ∈ K0 ∨ w0.heap.size ≤ k

structure Fr (a : Act) (n : Nat) (S : Slots) : Prop where
  size : a.tmps.size = n
  defers : a.defers = []
  get : ∀ t v, S.get t = some v → a.tmps.getD t undef = v

def J (c : Cx) (X : Act → World → Prop) (S : Slots) (H : Hs) : Prop :=
  ∀ a w, Fr a c.n S → St c.w0 c.K0 w H.flatten → X a w

/-- What an operand holds. -/
def ev (S : Slots) : Operand → Option Value
  | .tmp t => S.get t
  | .const v => some v
  | .global g => some (.pointer (some ⟨g, 0, none⟩))
  | .func f => some (.func (.func f) #[] #[])

theorem Fr.ev {a : Act} {n : Nat} {S : Slots} (h : Fr a n S) {x : Operand} {v : Value} (hx : ev S x = some v) : a.eval x = v := by
  cases x with
  | tmp t => exact h.get t v hx
  | const u => exact Option.some.inj hx
  | global g => exact Option.some.inj hx
  | func f => exact Option.some.inj hx

theorem Slots.get_cons (d t : Nat) (v : Value) (S : Slots) : Slots.get ((d, v) :: S) t = if d = t then some v else S.get t := by
  simp only [Slots.get]
  by_cases h : d = t
  · subst h; simp
  · have : Nat.beq d t = false := by
      cases hb : Nat.beq d t with
      | false => rfl
      | true => exact absurd (Nat.eq_of_beq_eq_true hb) h
    simp [this, h]

theorem Fr.put {a : Act} {n : Nat} {S : Slots} (h : Fr a n S) {d : Nat} (hd : Nat.blt d n = true) (v : Value) : Fr (a.put (some d) v) n ((d, v) :: S) := by
  have hd : d < n := by simpa [Nat.blt_eq] using hd
  refine ⟨by simpa [Act.put] using h.size, h.defers, fun t u hu => ?_⟩
  rw [Slots.get_cons] at hu
  have hs := h.size
  by_cases e : d = t
  · subst e
    rw [if_pos rfl] at hu
    cases hu
    simp [Act.put, Array.getD, hs, hd]
  · rw [if_neg e] at hu
    have := h.get t u hu
    simp only [Act.put, Array.getD_eq_getD_getElem?] at *
    rw [Array.getElem?_setIfInBounds_ne e]
    exact this

theorem Fr.mono {a : Act} {n : Nat} {S S' : Slots} (h : Fr a n S) (hs : ∀ t v, S'.get t = some v → S.get t = some v) : Fr a n S' :=
  ⟨h.size, h.defers, fun t v ht => h.get t v (hs t v ht)⟩

/-! ### The goals of a walk, closed to unfolding (at the end of E2) -/
def CW (P : Program) (x : Code) (Q : Exit → Act → World → Prop) : Act → World → Prop := x.wp P Q
def LW (P : Program) (ops : Array Oper) (Q : Exit → Act → World → Prop) (l : List Oper) : Act → World → Prop := wpList P ops Q l
def OW (P : Program) (o : Oper) (K : Act → World → Prop) (Q : Exit → Act → World → Prop) : Act → World → Prop := fun a w => o.wp P a w K Q
def XW (Q : Exit → Act → World → Prop) (e : Exit) : Act → World → Prop := Q e
def AW (P : Program) (ops : Array Oper) (Q : Exit → Act → World → Prop) (T : Heap → World → Prop) (TH : Heap) (fuel : Nat) (listed : Array Bool) : Act → World → Prop := wpAnyH P .any ops Q (T TH) fuel listed
def PW (K : Act → World → Prop) (d : Option Nat) (v : Value) : Act → World → Prop := fun a w => K (a.put d v) w

/-! ### Structure -/
section
variable {P : Program} {Q : Exit → Act → World → Prop} {c : Cx} {S : Slots} {H : Hs}

theorem J.seq {x y : Code} (h : J c (CW P x (Exit.then (CW P y Q) Q)) S H) : J c (CW P (Code.seq x y) Q) S H :=
  fun a w hf hs => wp_seq (h a w hf hs)
theorem J.skip (h : J c (XW Q .normal) S H) : J c (CW P Code.skip Q) S H := fun a w hf hs => wp_skip (h a w hf hs)
theorem J.region {id : Nat} {ops : Array Oper} (h : J c (LW P ops Q ops.toList) S H) : J c (CW P (Code.region id ops false) Q) S H :=
  fun a w hf hs => wp_region_list (h a w hf hs)
theorem J.block {id : Nat} {x : Code} (h : J c (CW P x (Exit.inBlock id Q)) S H) : J c (CW P (Code.block id x) Q) S H :=
  fun a w hf hs => wp_block (h a w hf hs)
theorem J.exit {id : Nat} (h : J c (XW Q (.exit id)) S H) : J c (CW P (Code.exit id) Q) S H := fun a w hf hs => wp_exit (h a w hf hs)
theorem J.ret (h : J c (XW Q .ret) S H) : J c (CW P Code.ret Q) S H := fun a w hf hs => wp_ret (h a w hf hs)
theorem J.thenN {X : Act → World → Prop} (h : J c X S H) : J c (XW (Exit.then X Q) .normal) S H := h
theorem J.thenX {X : Act → World → Prop} {i : Nat} (h : J c (XW Q (.exit i)) S H) : J c (XW (Exit.then X Q) (.exit i)) S H := h
theorem J.thenR {X : Act → World → Prop} (h : J c (XW Q .ret) S H) : J c (XW (Exit.then X Q) .ret) S H := h
theorem J.inN {i : Nat} (h : J c (XW Q .normal) S H) : J c (XW (Exit.inBlock i Q) .normal) S H := h
theorem J.inR {i : Nat} (h : J c (XW Q .ret) S H) : J c (XW (Exit.inBlock i Q) .ret) S H := h
theorem J.inX {i j : Nat} (hij : Nat.beq j i = true) (h : J c (XW Q .normal) S H) : J c (XW (Exit.inBlock i Q) (.exit j)) S H := fun a w hf hs => by
  have : j = i := Nat.eq_of_beq_eq_true hij
  show Exit.inBlock i Q (.exit j) a w
  simp only [Exit.inBlock, this, if_true]; exact h a w hf hs
theorem J.inO {i j : Nat} (hij : Nat.beq j i = false) (h : J c (XW Q (.exit j)) S H) : J c (XW (Exit.inBlock i Q) (.exit j)) S H := fun a w hf hs => by
  have : j ≠ i := Nat.ne_of_beq_eq_false hij
  show Exit.inBlock i Q (.exit j) a w
  simp only [Exit.inBlock, this, if_false]; exact h a w hf hs
theorem J.nil {ops : Array Oper} (h : J c (XW Q .normal) S H) : J c (LW P ops Q []) S H := h
theorem J.cond {x : Operand} {t : Bool} {thn els : Code} (hx : ev S x = some (.bool t)) (ht : t = true → J c (CW P thn Q) S H) (hf : t = false → J c (CW P els Q) S H) :
    J c (CW P (Code.cond x thn els) Q) S H := fun a w hfr hs => by
  refine wp_cond (hfr.ev hx) ?_
  cases t with
  | true => exact ht rfl a w hfr hs
  | false => exact hf rfl a w hfr hs
theorem J.condT {x : Operand} {thn els : Code} (hx : ev S x = some (.bool true)) (ht : J c (CW P thn Q) S H) :
    J c (CW P (Code.cond x thn els) Q) S H := J.cond hx (fun _ => ht) (fun h => by cases h)
theorem J.condF {x : Operand} {thn els : Code} (hx : ev S x = some (.bool false)) (ht : J c (CW P els Q) S H) :
    J c (CW P (Code.cond x thn els) Q) S H := J.cond hx (fun h => by cases h) (fun _ => ht)

/-- The temporaries that are named, the rest forgotten. -/
def Slots.pick (ts : List Nat) (S : Slots) : Slots := ts.filterMap fun t => (S.get t).map fun v => (t, v)
theorem Slots.pick_get (ts : List Nat) (S : Slots) (t : Nat) (v : Value) (h : (S.pick ts).get t = some v) : S.get t = some v := by
  induction ts with
  | nil => simp [Slots.pick, Slots.get] at h
  | cons u r ih =>
    unfold Slots.pick at h ih
    rw [List.filterMap_cons] at h
    cases hu : S.get u with
    | none => rw [hu] at h; exact ih h
    | some x =>
      rw [hu] at h
      simp only [Option.map_some] at h
      rw [Slots.get_cons] at h
      by_cases e : u = t
      · subst e; rw [if_pos rfl] at h; rw [hu]; exact h
      · rw [if_neg e] at h; exact ih h
theorem J.pick {X : Act → World → Prop} (ts : List Nat) {S' : Slots} (hS : S.pick ts = S') (h : J c X S' H) : J c X S H :=
  fun a w hf hs => h a w (hf.mono (by rw [← hS]; exact Slots.pick_get ts S)) hs
theorem J.slots {X : Act → World → Prop} (S' : Slots) (hs : ∀ t v, S'.get t = some v → S.get t = some v) (h : J c X S' H) : J c X S H :=
  fun a w hf hw => h a w (hf.mono hs) hw

/-! ### The heap: pieces chosen -/
theorem Has.sub {w : World} {H H' : Heap} (h : Has w H) (hs : H'.Sublist H) : Has w H' :=
  ⟨fun b o hm => h.1 b o (hs.subset hm), h.2.sublist (hs.map _)⟩
theorem Has.perm {w : World} {H H' : Heap} (h : Has w H) (hp : H'.Perm H) : Has w H' :=
  ⟨fun b o hm => h.1 b o (hp.mem_iff.1 hm), ((hp.map _).nodup_iff).2 h.2⟩
theorem St.perm {w0 : World} {K0 : List Nat} {w : World} {H H' : Heap} (h : St w0 K0 w H) (hp : H'.Perm H) : St w0 K0 w H' :=
  ⟨h.has.perm hp, h.keep, fun k hk => h.fresh k ((hp.map _).mem_iff.1 hk)⟩
theorem St.sub {w0 : World} {K0 : List Nat} {w : World} {H H' : Heap} (h : St w0 K0 w H) (hp : H'.Sublist H) : St w0 K0 w H' :=
  ⟨h.has.sub hp, h.keep, fun k hk => h.fresh k ((hp.map _).subset hk)⟩

theorem front_perm {α : Type} (H : List α) : ∀ (i : Nat) (p : α), H[i]? = some p → (p :: H.eraseIdx i).Perm H := by
  induction H with
  | nil => intro i p h; simp at h
  | cons q r ih =>
    intro i p h
    cases i with
    | zero => simp at h; subst h; exact List.Perm.refl _
    | succ i =>
      simp only [List.getElem?_cons_succ] at h
      simp only [List.eraseIdx_cons_succ]
      exact (List.Perm.swap q p _).trans ((ih i p h).cons q)
/-- Piece i comes to the front. -/
theorem J.front {X : Act → World → Prop} (i : Nat) {p : Heap} {R : Hs} (hp : H[i]? = some p) (hR : H.eraseIdx i = R) (h : J c X S (p :: R)) : J c X S H :=
  fun a w hf hs => h a w hf (hs.perm (by rw [← hR]; exact (front_perm H i p hp).flatten))
/-- Piece i is forgotten. -/
theorem J.drop {X : Act → World → Prop} (i : Nat) (h : J c X S (H.eraseIdx i)) : J c X S H := fun a w hf hs => by
  cases hi : H[i]? with
  | none =>
    have : H.eraseIdx i = H := List.eraseIdx_of_length_le (by simpa using hi)
    rw [this] at h; exact h a w hf hs
  | some p =>
    refine h a w hf (St.sub (hs.perm (front_perm H i p hi).flatten) ?_)
    simp only [List.flatten_cons]
    exact List.sublist_append_right _ _
theorem J.perm {X : Act → World → Prop} {H' : Hs} (hp : H'.Perm H) (h : J c X S H') : J c X S H :=
  fun a w hf hs => h a w hf (hs.perm hp.flatten)
theorem J.flat {X : Act → World → Prop} {H' : Hs} (hp : H'.flatten = H.flatten) (h : J c X S H') : J c X S H :=
  fun a w hf hs => h a w hf (by rw [hp]; exact hs)

/-! ### Operations -/
variable {ops : Array Oper} {rest : List Oper} {o : Oper}

theorem J.op (hg : o.guard = none) (h : J c (OW P o (LW P ops Q rest) Q) S H) : J c (LW P ops Q (o :: rest)) S H :=
  fun a w hf hs => by
    show wpList P ops Q _ a w
    unfold wpList
    rw [if_pos (by simp [Region.wanted, hg])]
    exact .inl (h a w hf hs)

theorem yielded_of {a : Act} {n : Nat} (hf : Fr a n S) {j dj : Nat} {t : Bool} (hd : (ops[j]?).bind (·.dst) = some dj) (hs : S.get dj = some (.bool t)) : yielded ops a.tmps j = some t := by
  unfold yielded
  rw [hd]
  have := hf.get dj _ hs
  rw [Array.getD_eq_getD_getElem?] at this
  cases hx : a.tmps[dj]? with
  | none => rw [hx] at this; simp [undef] at this
  | some v => rw [hx] at this; simp at this; subst this; simp [hx]
theorem yielded_undef {a : Act} {n : Nat} (hf : Fr a n S) {j dj : Nat} (hd : (ops[j]?).bind (·.dst) = some dj) (hs : S.get dj = some undef) : yielded ops a.tmps j = none := by
  unfold yielded
  rw [hd]
  have := hf.get dj _ hs
  rw [Array.getD_eq_getD_getElem?] at this
  cases hx : a.tmps[dj]? with
  | none => simp [hx]
  | some v => rw [hx] at this; simp at this; subst this; simp [hx, undef]

/-- A guarded operation whose guard says yes. -/
theorem J.want {j dj : Nat} {t : Bool} (hg : o.guard = some (j, t)) (hd : (ops[j]?).bind (·.dst) = some dj) (hs : S.get dj = some (.bool t))
    (h : J c (OW P o (LW P ops Q rest) Q) S H) : J c (LW P ops Q (o :: rest)) S H :=
  fun a w hf hw => by
    show wpList P ops Q _ a w
    unfold wpList
    rw [if_pos (by simp [Region.wanted, hg, yielded_of hf hd hs])]
    exact .inl (h a w hf hw)
/-- Its guard says no: it is passed over. -/
theorem J.not {j dj d : Nat} {t u : Bool} (hg : o.guard = some (j, t)) (hd : (ops[j]?).bind (·.dst) = some dj) (hs : S.get dj = some (.bool u)) (hn : (u == t) = false)
    (hdst : o.dst = some d) (hdn : Nat.blt d c.n = true) (h : J c (LW P ops Q rest) ((d, undef) :: S) H) : J c (LW P ops Q (o :: rest)) S H :=
  fun a w hf hw => by
    show wpList P ops Q _ a w
    unfold wpList
    rw [if_neg (by simp only [Region.wanted, hg, yielded_of hf hd hs]; simpa using hn), hdst]
    exact h _ w (hf.put hdn undef) hw
theorem J.notU {j dj d : Nat} {t : Bool} (hg : o.guard = some (j, t)) (hd : (ops[j]?).bind (·.dst) = some dj) (hs : S.get dj = some undef)
    (hdst : o.dst = some d) (hdn : Nat.blt d c.n = true) (h : J c (LW P ops Q rest) ((d, undef) :: S) H) : J c (LW P ops Q (o :: rest)) S H :=
  fun a w hf hw => by
    show wpList P ops Q _ a w
    unfold wpList
    rw [if_neg (by simp [Region.wanted, hg, yielded_undef hf hd hs]), hdst]
    exact h _ w (hf.put hdn undef) hw

/-- These blocks hold this. -/
def Holds (H : Heap) (w : World) : Prop := ∀ b o, (b, o) ∈ H → w.heap[b]? = some o.obj'

/-- An operation that only computes a value. -/
def Gives (P : Program) (n : Nat) (o : Oper) (v : Value) (S : Slots) (H : Hs) : Prop :=
  ∀ a w, Fr a n S → Holds H.flatten w → (execOp a.eval o).run P w = .ok (.value v) w

/-- What comes behind an operation that leaves a value (and turns nothing). -/
theorem J.give {K : Act → World → Prop} {d : Nat} {v : Value} (hv : Gives P c.n o v S H) (hd : o.dst = some d) (hn : Nat.blt d c.n = true)
    (h : J c K ((d, v) :: S) H) : J c (OW P o K Q) S H :=
  fun a w hf hs => by
    show o.upon P a K Q ((execOp a.eval o).run P w)
    rw [hv a w hf hs.has.1, Oper.upon_value, hd]
    exact h _ w (hf.put hn v) hs

def HW (T : Heap) (X : Act → World → Prop) : Act → World → Prop := fun a w => Holds T w ∧ X a w

/-! ### Operations in whatever order -/
theorem St.drew {w0 w : World} {K0 : List Nat} {H : Heap} (h : St w0 K0 w H) : St w0 K0 { w with drawn := w.drawn + 1 } H :=
  ⟨⟨h.has.1, h.has.2⟩, ⟨h.keep.os, h.keep.tape, h.keep.output, h.keep.size, h.keep.block⟩, h.fresh⟩

/-- Those pieces stay as they are while the region runs. -/
theorem J.any (hm : P.follows .mixedOrders = true) (T : Hs) {id : Nat} (h : J c (AW P ops Q Holds T.flatten ops.size (Array.replicate ops.size false)) S H) :
    J c (CW P (Code.region id ops true) Q) S H :=
  fun a w hf hs => wp_region_held hm (h a _ hf hs.drew)

def Sub (T H : Hs) : Prop := ∀ p, p ∈ T → p ∈ H
theorem Sub.holds {T : Hs} (h : Sub T H) {w0 w : World} {K0 : List Nat} (hs : St w0 K0 w H.flatten) : Holds T.flatten w := fun b o hm => by
  obtain ⟨p, hp, hb⟩ := List.mem_flatten.1 hm
  exact hs.has.1 b o (List.mem_flatten.2 ⟨p, h p hp, hb⟩)
theorem Sub.nil : Sub [] H := fun p h => by cases h
theorem Sub.cons {T : Hs} {p : Heap} (i : Nat) (hp : H[i]? = some p) (h : Sub T H) : Sub (p :: T) H := fun q hq => by
  rcases List.mem_cons.1 hq with rfl | hq
  · exact List.mem_of_getElem? hp
  · exact h q hq

/-- An operation that computes a value out of those blocks alone. -/
def OT (P : Program) (T : Heap) (o : Oper) (K : Act → World → Prop) : Act → World → Prop :=
  fun a w => ∃ v d, o.dst = some d ∧ (∀ w', Holds T w' → (execOp a.eval o).run P w' = .ok (.value v) w') ∧ K (a.put (some d) v) w
def canTake (ops : Array Oper) (listed : Array Bool) (i : Nat) : Bool := Region.noSelect ops && Region.free .any ops listed i && (Region.ready .any ops listed).contains i
theorem J.giveT {T : Hs} {K : Act → World → Prop} {d : Nat} {v : Value} (hv : Gives P c.n o v S T) (hd : o.dst = some d) (hn : Nat.blt d c.n = true) (h : J c K ((d, v) :: S) H) : J c (OT P T.flatten o K) S H :=
  fun a w hf hs => ⟨v, d, hd, fun w' hw' => hv a w' hf hw', h _ w (hf.put hn v) hs⟩

/-- Operation i, which only computes, first. -/
theorem J.take {T : Hs} (i : Nat) {oi : Oper} {fuel : Nat} {listed : Array Bool} (hi : ops[i]? = some oi) (hs : canTake ops listed i = true)
    (hQ : ∀ ch a w (d : Nat) v, Q (.panic ch) (a.put (some d) v) w → Q (.panic ch) a w) (hg : oi.guard = none) (hT : Sub T H)
    (h : J c (OT P T.flatten oi (AW P ops Q Holds T.flatten fuel (listed.setIfInBounds i true))) S H) :
    J c (AW P ops Q Holds T.flatten (fuel + 1) listed) S H :=
  fun a w hfr hst => by
    simp only [canTake, Bool.and_eq_true] at hs
    obtain ⟨v, d, hd, hv, hk⟩ := h a w hfr hst
    exact wpAnyH_take hi hs.1.1 hs.1.2 hs.2 (fun ch a w hq => hQ ch a w _ _ (by rw [← hd]; exact hq)) (.inl ⟨by simp [Region.wanted, hg], hv⟩) (hT.holds hst) (by rw [hd]; exact hk)
theorem J.takeW {T : Hs} (i : Nat) {oi : Oper} {fuel j dj : Nat} {t : Bool} {listed : Array Bool} (hi : ops[i]? = some oi) (hs : canTake ops listed i = true)
    (hQ : ∀ ch a w (d : Nat) v, Q (.panic ch) (a.put (some d) v) w → Q (.panic ch) a w) (hg : oi.guard = some (j, t)) (hdj : (ops[j]?).bind (·.dst) = some dj) (hsj : S.get dj = some (.bool t)) (hT : Sub T H)
    (h : J c (OT P T.flatten oi (AW P ops Q Holds T.flatten fuel (listed.setIfInBounds i true))) S H) :
    J c (AW P ops Q Holds T.flatten (fuel + 1) listed) S H :=
  fun a w hfr hst => by
    simp only [canTake, Bool.and_eq_true] at hs
    obtain ⟨v, d, hd, hv, hk⟩ := h a w hfr hst
    exact wpAnyH_take hi hs.1.1 hs.1.2 hs.2 (fun ch a w hq => hQ ch a w _ _ (by rw [← hd]; exact hq)) (.inl ⟨by simp [Region.wanted, hg, yielded_of hfr hdj hsj], hv⟩) (hT.holds hst) (by rw [hd]; exact hk)
theorem J.takeN {T : Hs} (i : Nat) {oi : Oper} {d fuel j dj : Nat} {t u : Bool} {listed : Array Bool} (hi : ops[i]? = some oi) (hd : oi.dst = some d) (hn : Nat.blt d c.n = true) (hs : canTake ops listed i = true)
    (hQ : ∀ ch a w (d : Nat) v, Q (.panic ch) (a.put (some d) v) w → Q (.panic ch) a w) (hg : oi.guard = some (j, t)) (hdj : (ops[j]?).bind (·.dst) = some dj) (hsj : S.get dj = some (.bool u))
    (hne : (u == t) = false) (hT : Sub T H)
    (h : J c (AW P ops Q Holds T.flatten fuel (listed.setIfInBounds i true)) ((d, undef) :: S) H) :
    J c (AW P ops Q Holds T.flatten (fuel + 1) listed) S H :=
  fun a w hfr hst => by
    simp only [canTake, Bool.and_eq_true] at hs
    exact wpAnyH_take hi hs.1.1 hs.1.2 hs.2 (fun ch a w hq => hQ ch a w _ _ (by rw [← hd]; exact hq)) (.inr ⟨by simp only [Region.wanted, hg, yielded_of hfr hdj hsj]; simpa using hne, rfl⟩) (hT.holds hst)
      (by rw [hd]; exact h _ w (hfr.put hn undef) hst)
theorem J.takeU {T : Hs} (i : Nat) {oi : Oper} {d fuel j dj : Nat} {t : Bool} {listed : Array Bool} (hi : ops[i]? = some oi) (hd : oi.dst = some d) (hn : Nat.blt d c.n = true) (hs : canTake ops listed i = true)
    (hQ : ∀ ch a w (d : Nat) v, Q (.panic ch) (a.put (some d) v) w → Q (.panic ch) a w) (hg : oi.guard = some (j, t)) (hdj : (ops[j]?).bind (·.dst) = some dj) (hsj : S.get dj = some undef) (hT : Sub T H)
    (h : J c (AW P ops Q Holds T.flatten fuel (listed.setIfInBounds i true)) ((d, undef) :: S) H) :
    J c (AW P ops Q Holds T.flatten (fuel + 1) listed) S H :=
  fun a w hfr hst => by
    simp only [canTake, Bool.and_eq_true] at hs
    exact wpAnyH_take hi hs.1.1 hs.1.2 hs.2 (fun ch a w hq => hQ ch a w _ _ (by rw [← hd]; exact hq)) (.inr ⟨by simp [Region.wanted, hg, yielded_undef hfr hdj hsj], rfl⟩) (hT.holds hst)
      (by rw [hd]; exact h _ w (hfr.put hn undef) hst)
/-- A guard in such a region that is not decided: both ways. -/
theorem J.guardA {X : Act → World → Prop} (dj : Nat) {u : Bool} (hs : S.get dj = some (.bool u)) (h1 : u = true → J c X ((dj, .bool true) :: S) H) (h2 : u = false → J c X ((dj, .bool false) :: S) H) : J c X S H :=
  fun a w hf hw => by
    cases u with
    | true => exact h1 rfl a w (hf.mono fun t v h => by
        rw [Slots.get_cons] at h
        split at h
        · rename_i e; subst e; rw [hs]; exact h
        · exact h) hw
    | false => exact h2 rfl a w (hf.mono fun t v h => by
        rw [Slots.get_cons] at h
        split at h
        · rename_i e; subst e; rw [hs]; exact h
        · exact h) hw

/-- Whichever of those that may come comes. -/
theorem J.each {T : Hs} (rs : List Nat) {fuel : Nat} {listed : Array Bool} (hr : Region.ready .any ops listed = rs) (hne : rs ≠ [])
    (h : ∀ i, i ∈ rs → J c (wpOp P ops Q i (HW T.flatten (AW P ops Q Holds T.flatten fuel (listed.setIfInBounds i true)))) S H) :
    J c (AW P ops Q Holds T.flatten (fuel + 1) listed) S H :=
  fun a w hf hs => wpAnyH_all hr hne (fun i hi => h i hi a w hf hs)
/-- One alone may come. -/
theorem J.one {T : Hs} (i : Nat) {oi : Oper} {fuel : Nat} {listed : Array Bool} (hr : Region.ready .any ops listed = [i]) (hi : ops[i]? = some oi) (hg : oi.guard = none)
    (h : J c (OW P oi (HW T.flatten (AW P ops Q Holds T.flatten fuel (listed.setIfInBounds i true))) Q) S H) :
    J c (AW P ops Q Holds T.flatten (fuel + 1) listed) S H :=
  J.each [i] hr (by simp) fun k hk => by
    obtain rfl : k = i := by simpa using hk
    intro a w hf hs
    show Go.wpOp P ops Q _ _ a w
    unfold Go.wpOp
    rw [hi]
    simp only [Region.wanted, hg, if_true]
    exact .inl (h a w hf hs)
theorem J.oneW {T : Hs} (i : Nat) {oi : Oper} {fuel j dj : Nat} {t : Bool} {listed : Array Bool} (hr : Region.ready .any ops listed = [i]) (hi : ops[i]? = some oi) (hg : oi.guard = some (j, t)) (hdj : (ops[j]?).bind (·.dst) = some dj) (hsj : S.get dj = some (.bool t))
    (h : J c (OW P oi (HW T.flatten (AW P ops Q Holds T.flatten fuel (listed.setIfInBounds i true))) Q) S H) :
    J c (AW P ops Q Holds T.flatten (fuel + 1) listed) S H :=
  J.each [i] hr (by simp) fun k hk => by
    obtain rfl : k = i := by simpa using hk
    intro a w hf hs
    show Go.wpOp P ops Q _ _ a w
    unfold Go.wpOp
    rw [hi]
    simp only [Region.wanted, hg, yielded_of hf hdj hsj, beq_self_eq_true, if_true]
    exact .inl (h a w hf hs)
theorem J.wpOp {i : Nat} {oi : Oper} {K : Act → World → Prop} (hi : ops[i]? = some oi) (hg : oi.guard = none) (h : J c (OW P oi K Q) S H) : J c (wpOp P ops Q i K) S H := by
  intro a w hf hs
  unfold Go.wpOp
  rw [hi]
  simp only [Region.wanted, hg, if_true]
  exact .inl (h a w hf hs)
theorem J.held {T : Hs} {X : Act → World → Prop} (hT : Sub T H) (h : J c X S H) : J c (HW T.flatten X) S H :=
  fun a w hf hs => ⟨hT.holds hs, h a w hf hs⟩
theorem J.all {T : Hs} {fuel : Nat} {listed : Array Bool} (hr : Region.ready .any ops listed = []) (h : J c (XW Q .normal) S H) :
    J c (AW P ops Q Holds T.flatten fuel listed) S H :=
  fun a w hf hs => wpAnyH_done hr (h a w hf hs) fuel

/-- A guard that is not decided: both ways. -/
theorem J.guard {j dj : Nat} {t u : Bool} (hg : o.guard = some (j, t)) (hd : (ops[j]?).bind (·.dst) = some dj) (hs : S.get dj = some (.bool u))
    (h1 : u = true → J c (LW P ops Q (o :: rest)) ((dj, .bool true) :: S) H) (h2 : u = false → J c (LW P ops Q (o :: rest)) ((dj, .bool false) :: S) H) : J c (LW P ops Q (o :: rest)) S H :=
  fun a w hf hw => by
    cases u with
    | true => exact h1 rfl a w (hf.mono fun t v h => by
        rw [Slots.get_cons] at h
        split at h
        · rename_i e; subst e; rw [hs]; exact h
        · exact h) hw
    | false => exact h2 rfl a w (hf.mono fun t v h => by
        rw [Slots.get_cons] at h
        split at h
        · rename_i e; subst e; rw [hs]; exact h
        · exact h) hw
theorem J.guard1 {j dj : Nat} {t u : Bool} (hg : o.guard = some (j, t)) (hd : (ops[j]?).bind (·.dst) = some dj) (hs : S.get dj = some (.bool u)) (hu : u = true)
    (h1 : J c (LW P ops Q (o :: rest)) ((dj, .bool true) :: S) H) : J c (LW P ops Q (o :: rest)) S H :=
  J.guard hg hd hs (fun _ => h1) (fun h => by rw [hu] at h; cases h)
theorem J.guard0 {j dj : Nat} {t u : Bool} (hg : o.guard = some (j, t)) (hd : (ops[j]?).bind (·.dst) = some dj) (hs : S.get dj = some (.bool u)) (hu : u = false)
    (h1 : J c (LW P ops Q (o :: rest)) ((dj, .bool false) :: S) H) : J c (LW P ops Q (o :: rest)) S H :=
  J.guard hg hd hs (fun h => by rw [hu] at h; cases h) (fun _ => h1)
/-- What a temporary holds, said otherwise. -/
theorem J.slot {X : Act → World → Prop} (t : Nat) {u : Value} (v : Value) (hs : S.get t = some u) (e : u = v) (h : J c X ((t, v) :: S) H) : J c X S H :=
  fun a w hf hw => h a w (hf.mono fun t' v' h' => by
    rw [Slots.get_cons] at h'
    split at h'
    · rename_i e'; subst e'; rw [hs, e]; exact h'
    · exact h') hw
theorem J.cond1 {x : Operand} {t : Bool} {thn els : Code} (hx : ev S x = some (.bool t)) (ht : t = true) (h : J c (CW P thn Q) S H) : J c (CW P (Code.cond x thn els) Q) S H :=
  J.cond hx (fun _ => h) (fun h' => by rw [ht] at h'; cases h')
theorem J.cond0 {x : Operand} {t : Bool} {thn els : Code} (hx : ev S x = some (.bool t)) (ht : t = false) (h : J c (CW P els Q) S H) : J c (CW P (Code.cond x thn els) Q) S H :=
  J.cond hx (fun h' => by rw [ht] at h'; cases h') (fun _ => h)
theorem J.clear {X : Act → World → Prop} (h : J c X S []) : J c X S H := fun a w hf hs => h a w hf (hs.sub (List.nil_sublist _))
theorem J.first {X : Act → World → Prop} (k : Nat) {H' : Hs} (hH : H.take k = H') (h : J c X S H') : J c X S H := fun a w hf hs => h a w hf (hs.sub (by
  rw [← hH]
  conv => rhs; rw [← List.take_append_drop k H, List.flatten_append]
  exact List.sublist_append_left _ _))
theorem J.norm {X : Act → World → Prop} {H' : Hs} (hH : H = H') (h : J c X S H') : J c X S H := by rw [hH]; exact h

/-! ### The end of a body -/
def Ret (w0 : World) (K0 : List Nat) (Post : Value → Hs → Prop) : Ending → World → Prop := fun e w' => ∃ v H', e = .returned v ∧ Post v H' ∧ St w0 K0 w' H'.flatten

theorem J.done_ret {fn : Func} {Post : Value → Hs → Prop} {v : Value} (hr : ∀ a w, Fr a c.n S → St c.w0 c.K0 w H.flatten → (results fn a.tmps).run P w = .ok v w)
    (hp : Post v H) : J c (XW (bodyPost P fn (Ret c.w0 c.K0 Post)) .ret) S H :=
  fun a w hf hs => ⟨hf.defers, v, hr a w hf hs, v, H, rfl, hp, hs⟩
theorem J.done {fn : Func} {Post : Value → Hs → Prop} {v : Value} (hr : ∀ a w, Fr a c.n S → St c.w0 c.K0 w H.flatten → (results fn a.tmps).run P w = .ok v w)
    (hp : Post v H) : J c (XW (bodyPost P fn (Ret c.w0 c.K0 Post)) .normal) S H :=
  fun a w hf hs => ⟨hf.defers, v, hr a w hf hs, v, H, rfl, hp, hs⟩

theorem res0 {fn : Func} (h : fn.results = #[]) (tmps : Array Value) (w : World) : (results fn tmps).run P w = .ok (.tuple #[]) w := results_none h tmps P w
theorem res1 {fn : Func} {t : Nat} {v : Value} (h : fn.results = #[.tmp t]) (hs : S.get t = some v) :
    ∀ a w, Fr a c.n S → St c.w0 c.K0 w H.flatten → (results fn a.tmps).run P w = .ok v w := fun a w hf _ => by
  rw [results_tmp h]; exact congrArg (fun x => Result.ok x w) (hf.get t v hs)

theorem res2 {fn : Func} {t u : Nat} {v v' : Value} (h : fn.results = #[.tmp t, .tmp u]) (hs : S.get t = some v) (hs' : S.get u = some v') :
    ∀ a w, Fr a c.n S → St c.w0 c.K0 w H.flatten → (results fn a.tmps).run P w = .ok (.tuple #[v, v']) w := fun a w hf _ => by
  have h1 := hf.get t v hs
  have h2 := hf.get u v' hs'
  rw [results_tmp2 h, h1, h2]

theorem res3 {fn : Func} {t u x : Nat} {v v' v'' : Value} (h : fn.results = #[.tmp t, .tmp u, .tmp x]) (hs : S.get t = some v) (hs' : S.get u = some v') (hs'' : S.get x = some v'') :
    ∀ a w, Fr a c.n S → St c.w0 c.K0 w H.flatten → (results fn a.tmps).run P w = .ok (.tuple #[v, v', v'']) w := fun a w hf _ => by
  have h1 := hf.get t v hs
  have h2 := hf.get u v' hs'
  have h3 := hf.get x v'' hs''
  simp only [Array.getD_eq_getD_getElem?] at h1 h2 h3
  unfold results; simp [h, h1, h2, h3]

/-- The contract of a function: from these blocks, whatever else there is. -/
def Sp (P : Program) (f : FuncId) (args : Array Value) (H : Hs) (Post : Value → Hs → Prop) : Prop :=
  ∀ w, Has w H.flatten → Calls P f args w (Ret w (keys H.flatten) Post)

theorem St.start {w : World} {H : Heap} (h : Has w H) : St w (keys H) w H := ⟨h, Keep.refl _ _, fun _ hk => .inl hk⟩

def slotsFrom : Nat → List Value → Slots
  | _, [] => []
  | k, v :: r => (k, v) :: slotsFrom (k + 1) r
theorem slotsFrom_get : ∀ (l : List Value) (k t : Nat) (v : Value), (slotsFrom k l).get t = some v → k ≤ t ∧ l[t - k]? = some v := by
  intro l
  induction l with
  | nil => intro k t v h; simp [slotsFrom, Slots.get] at h
  | cons u r ih =>
    intro k t v h
    rw [slotsFrom, Slots.get_cons] at h
    by_cases e : k = t
    · subst e; rw [if_pos rfl] at h; simpa using h
    · rw [if_neg e] at h
      obtain ⟨h1, h2⟩ := ih (k + 1) t v h
      refine ⟨by omega, ?_⟩
      have : t - k = (t - (k + 1)) + 1 := by omega
      rw [this]; simpa using h2

theorem Sp.intro {f : FuncId} {fn : Func} {body : Code} {args : Array Value} {Post : Value → Hs → Prop} (hf : P.funcs[f]? = some fn) (hb : fn.body = some body)
    (hn : Nat.ble args.size fn.ntmps = true)
    {S : Slots} (hS : slotsFrom 0 args.toList = S)
    (h : ∀ w K0, J ⟨w, K0, fn.ntmps⟩ (CW P body (bodyPost P fn (Ret w K0 Post))) S H) : Sp P f args H Post :=
  fun w hw => calls_of_wp hf hb (h w (keys H.flatten) _ w ⟨by have := Nat.le_of_ble_eq_true hn; simp; omega, rfl, fun t v ht => by
    rw [← hS] at ht
    obtain ⟨_, h2⟩ := slotsFrom_get _ _ _ _ ht
    simp only [Nat.sub_zero] at h2
    have hlt : t < args.size := by
      have := List.getElem?_eq_some_iff.1 h2
      simpa using this.1
    rw [Array.getD_eq_getD_getElem?, Array.getElem?_append_left hlt]
    rw [← Array.getElem?_toList, h2]; rfl⟩ (St.start hw))

/-! ### A call by its contract -/
theorem Keep.trans_st {w0 w w' : World} {K0 K1 : List Nat} (h : Keep K0 w0 w) (h' : Keep K1 w w') (hk : ∀ b, b ∈ K1 → b ∈ K0 ∨ w0.heap.size ≤ b) : Keep K0 w0 w' :=
  ⟨h'.os.trans h.os, h'.tape.trans h.tape, h'.output.trans h.output, Nat.le_trans h.size h'.size, fun b hb hn => by
    have hni : b ∉ K1 := fun hm => by
      rcases hk b hm with h1 | h1
      · exact hn h1
      · omega
    rw [h'.block b (Nat.lt_of_lt_of_le hb h.size) hni, h.block b hb hn]⟩

theorem Has.lt {w : World} {H : Heap} (h : Has w H) {b : Nat} (hb : b ∈ keys H) : b < w.heap.size := by
  obtain ⟨p, hp, rfl⟩ := List.mem_map.1 hb
  have := h.1 p.1 p.2 hp
  exact (Array.getElem?_eq_some_iff.1 this).1

theorem keysL {H1 F : Heap} {b : Nat} (h : b ∈ keys H1) : b ∈ keys (H1 ++ F) := by unfold keys at *; rw [List.map_append]; exact List.mem_append.2 (.inl h)
theorem keysR {H1 F : Heap} {b : Nat} (h : b ∈ keys F) : b ∈ keys (H1 ++ F) := by unfold keys at *; rw [List.map_append]; exact List.mem_append.2 (.inr h)
theorem St.call {w0 w w' : World} {K0 : List Nat} {H1 F H1' : Heap} (h : St w0 K0 w (H1 ++ F)) (h' : St w (keys H1) w' H1') : St w0 K0 w' (H1' ++ F) := by
  have hk : ∀ b, b ∈ keys H1 → b ∈ K0 ∨ w0.heap.size ≤ b := fun b hb => h.fresh b (keysL hb)
  have hnd : (keys H1 ++ keys F).Nodup := by have := h.has.2; unfold keys at *; simpa using this
  have hdis := (List.nodup_append.1 hnd).2.2
  refine ⟨⟨fun b o hm => ?_, ?_⟩, h.keep.trans_st h'.keep hk, fun k hk' => ?_⟩
  · rcases List.mem_append.1 hm with h1 | h1
    · exact h'.has.1 b o h1
    · have hw := h.has.1 b o (List.mem_append.2 (.inr h1))
      have hb : b ∈ keys F := List.mem_map.2 ⟨(b, o), h1, rfl⟩
      rw [h'.keep.block b (h.has.lt (keysR hb)) (fun hm => hdis b hm b hb rfl), hw]
  · unfold keys at *
    rw [List.map_append, List.nodup_append]
    refine ⟨h'.has.2, (List.nodup_append.1 hnd).2.1, fun x hx y hy e => ?_⟩
    subst e
    rcases h'.fresh x hx with h1 | h1
    · exact hdis x h1 x hy rfl
    · have : x < w.heap.size := h.has.lt (by unfold keys; simp only [List.map_append, List.mem_append]; exact .inr hy)
      omega
  · unfold keys at hk'
    rw [List.map_append] at hk'
    rcases List.mem_append.1 hk' with h1 | h1
    · rcases h'.fresh k h1 with h2 | h2
      · exact hk k h2
      · exact .inr (Nat.le_trans h.keep.size h2)
    · exact h.fresh k (by unfold keys; rw [List.map_append]; exact List.mem_append.2 (.inr h1))

theorem callFunc_run {f : FuncId} {fn : Func} {args : Array Value} {w : World} (hf : P.funcs[f]? = some fn) (hb : fn.body.isNone = false) (hn : (fn.name == "runtime.NumGoroutine") = false) :
    (callFunc f args).run P w = .ok (.enter f args) w := by
  have hb' : ¬ fn.body = none := by intro h; rw [h] at hb; cases hb
  have hn' : ¬ fn.name = "runtime.NumGoroutine" := by simpa using hn
  unfold callFunc
  simp [hf, hb', hn']

theorem mapEv {a : Act} {n : Nat} (hf : Fr a n S) : ∀ (xs : List Operand) (vs : List Value), xs.map (ev S) = vs.map some → xs.map a.eval = vs := by
  intro xs
  induction xs with
  | nil => intro vs h; cases vs <;> simp_all
  | cons x r ih =>
    intro vs h
    cases vs with
    | nil => simp at h
    | cons v vs =>
      simp only [List.map_cons, List.cons.injEq] at h ⊢
      exact ⟨hf.ev h.1, ih vs h.2⟩

/-- A call of a named function by its contract: its blocks stand at the front. -/
theorem J.call {f : FuncId} {fn : Func} {xs : Array Operand} {ats : Array TypeId} {ty : TypeId} {pos : String} {after : Array Edge} {g : Option (Nat × Bool)} {dst : Option Nat}
    {K : Act → World → Prop} {args : List Value} {H1 F : Hs} {Post : Value → Hs → Prop} (spec : Sp P f args.toArray H1 Post) (hargs : xs.toList.map (ev S) = args.map some)
    (hf : P.funcs[f]? = some fn) (hb : fn.body.isNone = false) (hn : (fn.name == "runtime.NumGoroutine") = false)
    (h : ∀ v H', Post v H' → J c (PW K dst v) S (H' ++ F)) :
    J c (OW P ⟨dst, .call { callee := .value (.func f), args := xs, argTypes := ats }, ty, pos, after, g⟩ K Q) S (H1 ++ F) :=
  fun a w hfr hs => by
    show Oper.upon P _ a K Q ((execOp a.eval _).run P w)
    rw [execOp_call_go, callFunc_run hf hb hn]
    have ha : (#[] ++ xs.map a.eval ++ #[] : Array Value) = args.toArray := by
      rw [← mapEv hfr _ _ hargs]; apply Array.ext'; simp
    rw [ha]
    simp only [Oper.upon]
    rw [List.flatten_append] at hs
    refine (spec w (hs.has.sub (List.sublist_append_left _ _))).mono ?_
    rintro e w' ⟨v, H', rfl, hp, hst⟩
    exact h v H' hp a w' hfr (by rw [List.flatten_append]; exact hs.call hst)

theorem J.put {K : Act → World → Prop} {d : Nat} {v : Value} (hn : Nat.blt d c.n = true) (h : J c K ((d, v) :: S) H) : J c (PW K (some d) v) S H :=
  fun a w hf hs => h _ w (hf.put hn v) hs
theorem J.put0 {K : Act → World → Prop} {v : Value} (h : J c K S H) : J c (PW K none v) S H := h

/-! ### A loop -/
def RW {α : Type} (c : Cx) (Sx : α → Slots) (Hx : α → Hs) (Px : α → Prop) (μ : α → Nat) (m : Nat) : Act → World → Prop :=
  fun a w => ∃ z, Px z ∧ μ z < m ∧ Fr a c.n (Sx z) ∧ St c.w0 c.K0 w (Hx z).flatten
theorem J.loop {α : Type} {x : Code} (Sx : α → Slots) (Hx : α → Hs) (Px : α → Prop) (μ : α → Nat) (x0 : α) (h0 : Px x0) (hS : ∀ t v, (Sx x0).get t = some v → S.get t = some v)
    (hH : (Hx x0).flatten = H.flatten)
    (body : ∀ y, Px y → J c (CW P x (Exit.then (RW c Sx Hx Px μ (μ y)) Q)) (Sx y) (Hx y)) :
    J c (CW P (Code.loop x) Q) S H := by
  intro a w hf hs b k cs
  have key : ∀ n y a w, μ y = n → Px y → Fr a c.n (Sx y) → St c.w0 c.K0 w (Hx y).flatten →
      ∃ e a' w', Q e a' w' ∧ Arrives P (lone (b.at a (.code x :: .inLoop x :: k)) cs w) b k cs e a' w' := by
    intro n
    induction n using Nat.strongRecOn with
    | _ n ih =>
      intro y a w hn hp hf hs
      obtain ⟨e, a₁, w₁, hq, harr⟩ := body y hp a w hf hs b (.inLoop x :: k) cs
      cases e with
      | normal =>
        obtain ⟨z, hz, hlt, hf1, hs1⟩ := hq
        obtain ⟨e₂, a₂, w₂, hq₂, harr₂⟩ := ih (μ z) (hn ▸ hlt) z a₁ w₁ rfl hz hf1 hs1
        exact ⟨e₂, a₂, w₂, hq₂, .of_steps (Steps.trans harr (.one step_inLoop)) harr₂⟩
      | exit id => exact ⟨_, a₁, w₁, hq, .pass (x := .inLoop x) rfl (fun _ _ => .inl (by simp)) harr⟩
      | goto l => exact ⟨_, a₁, w₁, hq, .pass (x := .inLoop x) rfl (fun _ _ => .inl (by simp)) harr⟩
      | ret => exact ⟨_, a₁, w₁, hq, .pass (x := .inLoop x) rfl (fun _ _ => .inl (by simp)) harr⟩
      | panic ch => exact ⟨_, a₁, w₁, hq, .pass (x := .inLoop x) rfl (fun _ _ => .inl (by simp)) harr⟩
      | outgrown => exact ⟨_, a₁, w₁, hq, .pass (x := .inLoop x) rfl (fun _ _ => .inl (by simp)) harr⟩
  obtain ⟨e, a', w', hq, harr⟩ := key _ x0 a w rfl h0 (hf.mono hS) (by rw [hH]; exact hs)
  exact ⟨e, a', w', hq, .of_steps (.one step_loop) harr⟩
/-- The end of a round. -/
theorem J.round {α : Type} {Sx : α → Slots} {Hx : α → Hs} {Px : α → Prop} {μ : α → Nat} {m : Nat} (z : α) (hz : Px z) (hm : μ z < m)
    (hS : ∀ t v, (Sx z).get t = some v → S.get t = some v) (hH : (Hx z).flatten = H.flatten) :
    J c (RW c Sx Hx Px μ m) S H :=
  fun _ _ hf hs => ⟨z, hz, hm, hf.mono hS, by rw [hH]; exact hs⟩
end
end Go.Proofs.YE
namespace Go.Proofs.YE
open Go

abbrev ptr (b k : Nat) : Value := .pointer (some ⟨b, k, none⟩)
abbrev i64 (n : Int) : Value := .int .i64 n
abbrev slc (b k n c : Nat) : Value := .slice (some ⟨b, k, none⟩) n c
abbrev nils : Value := .slice none 0 0

/-! ### Facts on types -/
class One (P : Program) (T : TypeId) : Prop where
  und : (match P.underlying T with | some (.struct _) | some (.array _ _) | none => false | _ => true) = true
  size : (P.info? T).map (·.size) = some 1
class Agg (P : Program) (T : TypeId) (n : outParam Nat) : Prop where
  und : (match P.underlying T with | some (.struct _) | some (.array _ _) => true | _ => false) = true
  size : (P.info? T).map (·.size) = some n
class Siz (P : Program) (T : TypeId) (n : outParam Nat) : Prop where
  size : (P.info? T).map (·.size) = some n
class Zero (P : Program) (T : TypeId) (z : outParam Value) : Prop where
  zero : (P.info? T).map (·.zero) = some (some z)
class Fld (P : Program) (T f : Nat) (ft off sz : outParam Nat) : Prop where
  und : (match P.underlying T with | some (.struct fs) => (fs[f]?).map fun x => (x.type, x.offset) | _ => none) = some (ft, off)
  size : (P.info? ft).map (·.size) = some sz
  pos : (sz == 0) = false
class SliceOf (P : Program) (T : TypeId) (e : outParam TypeId) (sz : outParam Nat) (bytes : outParam Nat) : Prop where
  und : P.underlying T = some (.slice e)
  size : (P.info? e).map (·.size) = some sz
  bytes : (P.info? e).map (·.bytes) = some bytes
class ArrOf (P : Program) (T : TypeId) (n : outParam Nat) (e : outParam TypeId) (sz : outParam Nat) : Prop where
  und : P.underlying T = some (.array n e)
  size : (P.info? e).map (·.size) = some sz
class MapOf (P : Program) (T : TypeId) (k e : outParam TypeId) : Prop where
  und : P.underlying T = some (.map k e)
class IntOf (P : Program) (T : TypeId) (k : outParam IntKind) : Prop where
  und : P.underlying T = some (.int k)

section
variable {P : Program} {w : World}

theorem size_run {T n : Nat} (h : (P.info? T).map (·.size) = some n) : (sizeOf T).run P w = .ok n w := by
  cases hi : P.info? T with
  | none => rw [hi] at h; cases h
  | some i => rw [hi] at h; simp at h; simp [sizeOf, typeInfo, hi, h]
theorem bytes_run {T n : Nat} (h : (P.info? T).map (·.bytes) = some n) : ∃ i, (typeInfo T).run P w = .ok i w ∧ i.bytes = n := by
  cases hi : P.info? T with
  | none => rw [hi] at h; cases h
  | some i => rw [hi] at h; simp at h; exact ⟨i, by simp [typeInfo, hi], h⟩
theorem und_run {T : Nat} {d : TypeDesc} (h : P.underlying T = some d) : (underlying T).run P w = .ok d w := by simp [underlying, h]
theorem isAgg_one {T : Nat} [h : One P T] : (isAgg T).run P w = .ok false w := by
  have hu := h.und
  cases hd : P.underlying T with
  | none => rw [hd] at hu; cases hu
  | some d => rw [hd] at hu; cases d <;> first | (cases hu; done) | simp [isAgg, underlying, hd]
theorem isAgg_agg {T n : Nat} [h : Agg P T n] : (isAgg T).run P w = .ok true w := by
  have hu := h.und
  cases hd : P.underlying T with
  | none => rw [hd] at hu; cases hu
  | some d => rw [hd] at hu; cases d <;> first | (cases hu; done) | simp [isAgg, underlying, hd]
theorem zero_run {T : Nat} {z : Value} [h : Zero P T z] : (zeroValue T).run P w = .ok z w := by
  have hz := h.zero
  cases hi : P.info? T with
  | none => rw [hi] at hz; cases hz
  | some i => rw [hi] at hz; simp at hz; simp [zeroValue, typeInfo, hi, hz]
theorem fld_run {T f ft off sz : Nat} [h : Fld P T f ft off sz] : ∃ fs x, (underlying T).run P w = .ok (.struct fs) w ∧ fs[f]? = some x ∧ x.type = ft ∧ x.offset = off := by
  have hu := h.und
  cases hd : P.underlying T with
  | none => rw [hd] at hu; cases hu
  | some d =>
    rw [hd] at hu
    cases d <;> first | (cases hu; done) | skip
    rename_i fs
    simp only [Option.map_eq_some_iff, Prod.mk.injEq] at hu
    obtain ⟨x, hx, h1, h2⟩ := hu
    exact ⟨fs, x, und_run hd, hx, h1, h2⟩
end

section
variable {P : Program} {n : Nat} {S : Slots} {H : Hs} {o : Oper}

theorem Gives.move {x : Operand} {v : Value} (ho : o.op = .move x) (hx : ev S x = some v) : Gives P n o v S H := fun a w hf _ => by
  unfold execOp; rw [ho]; simp [hf.ev hx]
theorem Gives.assign {x : Operand} {v : Value} (ho : o.op = .assign x) (hx : ev S x = some v) : Gives P n o v S H := fun a w hf _ => by
  unfold execOp; rw [ho]; simp [hf.ev hx]
theorem Gives.pickT {x y z : Operand} {v : Value} (ho : o.op = .pick x y z) (hx : ev S x = some (.bool true)) (hy : ev S y = some v) : Gives P n o v S H := fun a w hf _ => by
  unfold execOp; rw [ho]; simp [hf.ev hx, hf.ev hy, asBool]
theorem Gives.pickF {x y z : Operand} {v : Value} (ho : o.op = .pick x y z) (hx : ev S x = some (.bool false)) (hz : ev S z = some v) : Gives P n o v S H := fun a w hf _ => by
  unfold execOp; rw [ho]; simp [hf.ev hx, hf.ev hz, asBool]
theorem Gives.pickB {x y z : Operand} {t : Bool} {u v : Value} (ho : o.op = .pick x y z) (hx : ev S x = some (.bool t)) (hy : ev S y = some u) (hz : ev S z = some v) : Gives P n o (if t = true then u else v) S H := fun a w hf _ => by
  unfold execOp; rw [ho]; simp [hf.ev hx, hf.ev hy, hf.ev hz, asBool]
theorem Gives.nilCheck {x : Operand} {p : Addr} (ho : o.op = .nilCheck x) (hx : ev S x = some (.pointer (some p))) : Gives P n o (.pointer (some p)) S H := fun a w hf _ => by
  unfold execOp; rw [ho]; simp [hf.ev hx]
theorem Gives.nilCheckF {x : Operand} {f : FuncId} {u v : Array Value} (ho : o.op = .nilCheck x) (hx : ev S x = some (.func (.func f) u v)) : Gives P n o (.func (.func f) u v) S H := fun a w hf _ => by
  unfold execOp; rw [ho]; simp [hf.ev hx]
theorem Gives.extract {x : Operand} {i : Nat} {vs : Array Value} {v : Value} (ho : o.op = .extract x i) (hx : ev S x = some (.tuple vs)) (hv : vs[i]? = some v) : Gives P n o v S H := fun a w hf _ => by
  unfold execOp; rw [ho]; simp [hf.ev hx, Instr.extract, hv]
theorem Gives.makeFunc {fn : Fn} {xs ys : Array Operand} {us vs : List Value} (ho : o.op = .makeFunc fn xs ys) (hx : xs.toList.map (ev S) = us.map some) (hy : ys.toList.map (ev S) = vs.map some) :
    Gives P n o (.func fn us.toArray vs.toArray) S H := fun a w hf _ => by
  unfold execOp; rw [ho]
  have h1 : xs.map a.eval = us.toArray := by rw [← mapEv hf _ _ hx]; apply Array.ext'; simp
  have h2 : ys.map a.eval = vs.toArray := by rw [← mapEv hf _ _ hy]; apply Array.ext'; simp
  simp [Instr.makeFunc, h1, h2]

/-! Numbers -/
theorem binInt_run {op : BinOp} {T U : TypeId} {x y : Operand} {k : IntKind} {p q : Int} {v : Value} (ho : o.op = .binOp op T x y U) (hx : ev S x = some (.int k p)) (hy : ev S y = some (.int k q))
    (hv : ∀ w, (binOp op T (.int k p) (.int k q)).run P w = .ok v w) : Gives P n o v S H := fun a w hf _ => by
  unfold execOp; rw [ho]
  have he : (eqGuard op T x y (.int k p) (.int k q)).run P w = .ok () w := by unfold eqGuard; cases op <;> simp
  simp [hf.ev hx, hf.ev hy, he, hv]
theorem Gives.add {T U : TypeId} {x y : Operand} {k : IntKind} {p q : Int} (ho : o.op = .binOp .add T x y U) (hx : ev S x = some (.int k p)) (hy : ev S y = some (.int k q)) : Gives P n o (.int k (k.wrap (p + q))) S H :=
  binInt_run ho hx hy fun w => by simp [binOp, Op.intArith]
theorem Gives.sub {T U : TypeId} {x y : Operand} {k : IntKind} {p q : Int} (ho : o.op = .binOp .sub T x y U) (hx : ev S x = some (.int k p)) (hy : ev S y = some (.int k q)) : Gives P n o (.int k (k.wrap (p - q))) S H :=
  binInt_run ho hx hy fun w => by simp [binOp, Op.intArith]
theorem Gives.mul {T U : TypeId} {x y : Operand} {k : IntKind} {p q : Int} (ho : o.op = .binOp .mul T x y U) (hx : ev S x = some (.int k p)) (hy : ev S y = some (.int k q)) : Gives P n o (.int k (k.wrap (p * q))) S H :=
  binInt_run ho hx hy fun w => by simp [binOp, Op.intArith]
theorem wrap64_in {z : Int} (h : -9223372036854775808 ≤ z ∧ z ≤ 9223372036854775807) : IntKind.i64.wrap z = z := by
  simp only [IntKind.wrap, IntKind.bits, IntKind.signed]
  by_cases h0 : 0 ≤ z
  · have : z % 2 ^ 64 = z := Int.emod_eq_of_lt h0 (by omega)
    simp only [this]
    simp; omega
  · have : z % 2 ^ 64 = z + 2 ^ 64 := by omega
    simp only [this]
    simp; omega
theorem Gives.add64 {T U : TypeId} {x y : Operand} {p q : Int} (ho : o.op = .binOp .add T x y U) (hx : ev S x = some (i64 p)) (hy : ev S y = some (i64 q)) (h : -9223372036854775808 ≤ p + q ∧ p + q ≤ 9223372036854775807) : Gives P n o (i64 (p + q)) S H := by
  have := Gives.add (P := P) (n := n) (H := H) ho hx hy; rw [wrap64_in h] at this; exact this
theorem Gives.sub64 {T U : TypeId} {x y : Operand} {p q : Int} (ho : o.op = .binOp .sub T x y U) (hx : ev S x = some (i64 p)) (hy : ev S y = some (i64 q)) (h : -9223372036854775808 ≤ p - q ∧ p - q ≤ 9223372036854775807) : Gives P n o (i64 (p - q)) S H := by
  have := Gives.sub (P := P) (n := n) (H := H) ho hx hy; rw [wrap64_in h] at this; exact this
theorem Gives.mul64 {T U : TypeId} {x y : Operand} {p q : Int} (ho : o.op = .binOp .mul T x y U) (hx : ev S x = some (i64 p)) (hy : ev S y = some (i64 q)) (h : -9223372036854775808 ≤ p * q ∧ p * q ≤ 9223372036854775807) : Gives P n o (i64 (p * q)) S H := by
  have := Gives.mul (P := P) (n := n) (H := H) ho hx hy; rw [wrap64_in h] at this; exact this
theorem Gives.quo64 {T U : TypeId} {x y : Operand} {p q : Int} (ho : o.op = .binOp .quo T x y U) (hx : ev S x = some (i64 p)) (hy : ev S y = some (i64 q)) (h : 0 ≤ p ∧ p ≤ 9223372036854775807) (hq : 0 < q) : Gives P n o (i64 (p / q)) S H :=
  binInt_run ho hx hy fun w => by
    have h1 : q ≠ 0 := by omega
    have h2 : p.tdiv q = p / q := Int.tdiv_eq_ediv_of_nonneg h.1
    have h3 : IntKind.i64.wrap (p / q) = p / q := wrap64_in (by
      have h4 := Int.ediv_nonneg h.1 (by omega : 0 ≤ q)
      have h5 := Int.ediv_le_self q h.1
      omega)
    simp [binOp, Op.intDiv, h1, h2, h3]
theorem Gives.rem64 {T U : TypeId} {x y : Operand} {p q : Int} (ho : o.op = .binOp .rem T x y U) (hx : ev S x = some (i64 p)) (hy : ev S y = some (i64 q)) (h : 0 ≤ p) (hq : (q == 0) = false) : Gives P n o (i64 (p % q)) S H :=
  binInt_run ho hx hy fun w => by
    have h1 : q ≠ 0 := by simpa using hq
    have h2 : p.tmod q = p % q := Int.tmod_eq_emod_of_nonneg h
    simp [binOp, Op.intDiv, h1, h2]
theorem Gives.remT {T U : TypeId} {x y : Operand} {p q : Int} {k : IntKind} (ho : o.op = .binOp .rem T x y U) (hx : ev S x = some (.int k p)) (hy : ev S y = some (.int k q)) (hq : (q == 0) = false) : Gives P n o (.int k (p.tmod q)) S H :=
  binInt_run ho hx hy fun w => by
    have h1 : q ≠ 0 := by simpa using hq
    simp [binOp, Op.intDiv, h1]
theorem Gives.eq {T U : TypeId} {x y : Operand} {k : IntKind} {p q : Int} (ho : o.op = .binOp .eql T x y U) (hx : ev S x = some (.int k p)) (hy : ev S y = some (.int k q)) : Gives P n o (.bool (p == q)) S H :=
  binInt_run ho hx hy fun w => by simp [binOp, Op.intCmp]
theorem Gives.ne {T U : TypeId} {x y : Operand} {k : IntKind} {p q : Int} (ho : o.op = .binOp .neq T x y U) (hx : ev S x = some (.int k p)) (hy : ev S y = some (.int k q)) : Gives P n o (.bool (p != q)) S H :=
  binInt_run ho hx hy fun w => by simp [binOp, Op.intCmp]
theorem Gives.lt {T U : TypeId} {x y : Operand} {k : IntKind} {p q : Int} (ho : o.op = .binOp .lss T x y U) (hx : ev S x = some (.int k p)) (hy : ev S y = some (.int k q)) : Gives P n o (.bool (decide (p < q))) S H :=
  binInt_run ho hx hy fun w => by simp [binOp, Op.intCmp]
theorem Gives.le {T U : TypeId} {x y : Operand} {k : IntKind} {p q : Int} (ho : o.op = .binOp .leq T x y U) (hx : ev S x = some (.int k p)) (hy : ev S y = some (.int k q)) : Gives P n o (.bool (decide (p ≤ q))) S H :=
  binInt_run ho hx hy fun w => by simp [binOp, Op.intCmp]
theorem Gives.gt {T U : TypeId} {x y : Operand} {k : IntKind} {p q : Int} (ho : o.op = .binOp .gtr T x y U) (hx : ev S x = some (.int k p)) (hy : ev S y = some (.int k q)) : Gives P n o (.bool (decide (q < p))) S H :=
  binInt_run ho hx hy fun w => by simp [binOp, Op.intCmp]
theorem Gives.ge {T U : TypeId} {x y : Operand} {k : IntKind} {p q : Int} (ho : o.op = .binOp .geq T x y U) (hx : ev S x = some (.int k p)) (hy : ev S y = some (.int k q)) : Gives P n o (.bool (decide (q ≤ p))) S H :=
  binInt_run ho hx hy fun w => by simp [binOp, Op.intCmp]
theorem Gives.not {x : Operand} {T : TypeId} {t : Bool} (ho : o.op = .unOp .not T x) (hx : ev S x = some (.bool t)) : Gives P n o (.bool (!t)) S H := fun a w hf _ => by
  unfold execOp; rw [ho]; simp [hf.ev hx, Op.unary]
theorem Gives.conv {T U : TypeId} {x : Operand} {k j : IntKind} {p : Int} [hT : IntOf P T k] [hU : IntOf P U j] {k' : IntKind} (ho : o.op = .convert T U x) (hx : ev S x = some (.int k' p)) : Gives P n o (.int j (j.wrap p)) S H := fun a w hf _ => by
  unfold execOp; rw [ho]; simp [hf.ev hx, convert, und_run hT.und, und_run hU.und, Conv.intToInt]

/-! Places -/
theorem fieldPlace_run {w : World} {b k : Nat} {x : Field} {sz : Nat} (hs : (P.info? x.type).map (·.size) = some sz) (hp : (sz == 0) = false) : (fieldPlace ⟨b, k, none⟩ x).run P w = .ok ⟨b, k + x.offset, none⟩ w := by
  have hp' : sz ≠ 0 := by simpa using hp
  unfold fieldPlace
  simp [size_run hs, hp', Addr.add]
theorem Gives.fieldAddr {T f ft off sz : Nat} {x : Operand} {b k : Nat} [h : Fld P T f ft off sz] (ho : o.op = .fieldAddr T x f) (hx : ev S x = some (ptr b k)) : Gives P n o (ptr b (k + off)) S H := fun a w hf _ => by
  obtain ⟨fs, x', h1, h2, h3, h4⟩ := fld_run (P := P) (w := w) (T := T) (f := f)
  have h5 : (fieldPlace ⟨b, k, none⟩ x').run P w = .ok ⟨b, k + x'.offset, none⟩ w := fieldPlace_run (by rw [h3]; exact h.size) h.pos
  unfold execOp; rw [ho]; simp [hf.ev hx, Instr.fieldAt, h1, h2, Instr.sureAddr, h5, h4]
theorem Gives.fieldAddr0 {T f ft off sz : Nat} {x : Operand} {b : Nat} [h : Fld P T f ft off sz] (ho : o.op = .fieldAddr T x f) (hx : ev S x = some (ptr b 0)) : Gives P n o (ptr b off) S H := by
  have := Gives.fieldAddr (P := P) (n := n) (H := H) ho hx; rw [Nat.zero_add] at this; exact this
theorem Gives.indexAddrS {T e sz by_ : Nat} {x y : Operand} {b k m cp : Nat} {i : Int} [h : SliceOf P T e sz by_] (ho : o.op = .indexAddr T x y) (hx : ev S x = some (slc b k m cp)) (hy : ev S y = some (i64 i)) (hi : 0 ≤ i ∧ i < m) :
    Gives P n o (ptr b (k + i.toNat * sz)) S H := fun a w hf _ => by
  unfold execOp; rw [ho]
  simp only [hf.ev hx, hf.ev hy]
  simp [Instr.indexAt, asIntOf, und_run h.und, hi, size_run h.size, Addr.add]
theorem Gives.indexAddrA {T m e sz : Nat} {x y : Operand} {b k : Nat} {i : Int} [h : ArrOf P T m e sz] (ho : o.op = .indexAddr T x y) (hx : ev S x = some (ptr b k)) (hy : ev S y = some (i64 i)) (hi : 0 ≤ i ∧ i < m) :
    Gives P n o (ptr b (k + i.toNat * sz)) S H := fun a w hf _ => by
  unfold execOp; rw [ho]
  simp only [hf.ev hx, hf.ev hy]
  simp [Instr.indexAt, asIntOf, und_run h.und, hi, size_run h.size, Addr.add, Instr.sureAddr]

theorem cell_of {H : Heap} {w : World} (hh : Holds H w) {b k : Nat} {l : List Value} {e : TypeId} {z : Nat × Nat} {v : Value} (hm : (b, HO.cells l e z) ∈ H) (hv : l[k]? = some v) : w.cell? ⟨b, k, none⟩ = some v := by
  have := hh b _ hm
  simp only [HO.obj'] at this
  simp [World.cell?, this, hv]
theorem mem_flat {H : Hs} {i : Nat} {p : Heap} {x : Nat × HO} (hp : H[i]? = some p) (hx : x ∈ p) : x ∈ H.flatten := List.mem_flatten.2 ⟨p, List.mem_of_getElem? hp, hx⟩
theorem mem_one {H : Hs} {i : Nat} {x : Nat × HO} (hp : H[i]? = some [x]) : x ∈ H.flatten := mem_flat hp (by simp)

theorem Gives.load1 {T : TypeId} {x : Operand} {b k : Nat} {l : List Value} {e : TypeId} {z : Nat × Nat} {v : Value} [One P T] (i : Nat) (ho : o.op = .load T x) (hx : ev S x = some (ptr b k)) (hp : H[i]? = some [(b, .cells l e z)]) (hv : l[k]? = some v) :
    Gives P n o v S H := fun a w hf hh => by
  have hc := cell_of hh (mem_one hp) hv
  unfold execOp; rw [ho]; simp [hf.ev hx, Instr.loadAt, Instr.sureAddr, loadVar, isAgg_one, run_load, hc]
theorem loadCells_run {H : Heap} {w : World} (hh : Holds H w) {b k m : Nat} {l : List Value} {e : TypeId} {z : Nat × Nat} (hm : (b, HO.cells l e z) ∈ H) (hl : k + m ≤ l.length) :
    (loadCells ⟨b, k, none⟩ m).run P w = .ok ((l.drop k).take m).toArray w := by
  have := run_loadCells_list (P := P) (w := w) ⟨b, k, none⟩ ((l.drop k).take m) (fun j v hj => by
    have hj' : l[k + j]? = some v := by
      rw [List.getElem?_take] at hj
      split at hj
      · simpa using hj
      · cases hj
    have := cell_of hh hm hj'
    by_cases h0 : j = 0
    · subst h0; simpa [Addr.add] using this
    · simpa [Addr.add, h0] using this)
  have hlen : ((l.drop k).take m).length = m := by simp; omega
  rw [hlen] at this
  exact this
theorem Gives.loadA {T : TypeId} {x : Operand} {b k m : Nat} {l : List Value} {e : TypeId} {z : Nat × Nat} {r : List Value} [h : Agg P T m] (i : Nat) (ho : o.op = .load T x) (hx : ev S x = some (ptr b k)) (hp : H[i]? = some [(b, .cells l e z)])
    (hl : Nat.ble (k + m) l.length = true) (hr : (l.drop k).take m = r) : Gives P n o (.agg r.toArray) S H := fun a w hf hh => by
  subst hr
  have hc := loadCells_run (P := P) hh (mem_one hp) (k := k) (m := m) (by simpa using hl)
  unfold execOp; rw [ho]; simp [hf.ev hx, Instr.loadAt, Instr.sureAddr, loadVar, isAgg_agg, size_run h.size, hc]
/-! More that only computes -/
theorem Gives.field1 {T f ft off : Nat} {x : Operand} {cs : List Value} {v : Value} [h : Fld P T f ft off 1] [One P ft] (ho : o.op = .field T x f) (hx : ev S x = some (.agg cs.toArray)) (hv : cs[off]? = some v) : Gives P n o v S H := fun a w hf _ => by
  obtain ⟨fs, x', h1, h2, h3, h4⟩ := fld_run (P := P) (w := w) (T := T) (f := f)
  unfold execOp; rw [ho]; simp [hf.ev hx, Instr.field, h1, h2, asAgg, part, h3, h4, isAgg_one, hv]
theorem Gives.fieldA {T f ft off sz : Nat} {x : Operand} {cs r : List Value} [h : Fld P T f ft off sz] [Agg P ft sz] (ho : o.op = .field T x f) (hx : ev S x = some (.agg cs.toArray)) (hr : (cs.drop off).take sz = r) : Gives P n o (.agg r.toArray) S H := fun a w hf _ => by
  subst hr
  obtain ⟨fs, x', h1, h2, h3, h4⟩ := fld_run (P := P) (w := w) (T := T) (f := f)
  have e : cs.toArray.extract off (off + sz) = ((cs.drop off).take sz).toArray := by simp [List.extract_eq_take_drop]
  have hs := size_run (P := P) (w := w) h.size
  have hp : (part ft cs.toArray off).run P w = .ok (.agg ((cs.drop off).take sz).toArray) w := by
    unfold part; rw [Sem.run_bind, isAgg_agg, Result.andThen_ok, if_pos rfl, Sem.run_bind, hs, Result.andThen_ok, e]; rfl
  have hfl : (Instr.field T (.agg cs.toArray) f).run P w = .ok (.agg ((cs.drop off).take sz).toArray) w := by
    unfold Instr.field
    rw [Sem.run_bind, h1, Result.andThen_ok]
    simp only [h2, asAgg, Sem.run_bind, Sem.run_pure, Result.andThen_ok, h3, h4]
    exact hp
  unfold execOp; rw [ho]; simp [hf.ev hx, hfl]
theorem Gives.indexStr {T : TypeId} {x y : Operand} {s : ByteArray} {i : Int} (ho : o.op = .index T x y) (hu : P.underlying T = some .string) (hx : ev S x = some (.string s)) (hy : ev S y = some (i64 i)) {u : UInt8} (hi : 0 ≤ i) (hs : s[i.toNat]? = some u) :
    Gives P n o (.int .u8 u.toNat) S H := fun a w hf _ => by
  unfold execOp; rw [ho]; simp only [hf.ev hx, hf.ev hy]; simp [Instr.index, asIntOf, und_run hu, hi, hs]
theorem Gives.indexA1 {T m e : Nat} {x y : Operand} {cs : List Value} {v : Value} {i : Int} [h : ArrOf P T m e 1] [One P e] (ho : o.op = .index T x y) (hx : ev S x = some (.agg cs.toArray)) (hy : ev S y = some (i64 i)) (hi : 0 ≤ i ∧ i < m) (hv : cs[i.toNat]? = some v) : Gives P n o v S H := fun a w hf _ => by
  unfold execOp; rw [ho]; simp only [hf.ev hx, hf.ev hy]; simp [Instr.index, asIntOf, und_run h.und, hi, part, isAgg_one, size_run h.size, hv]
theorem Gives.lenS {x : Operand} {p : Option Addr} {m cp : Nat} {T e sz by_ : Nat} [h : SliceOf P T e sz by_] (ho : o.op = .call { callee := .builtin .len, args := #[x], argTypes := #[T] }) (hx : ev S x = some (.slice p m cp)) : Gives P n o (i64 m) S H := fun a w hf _ => by
  unfold execOp; rw [ho]; simp [resolve, invoke, builtin, Builtin.len_, hf.ev hx, und_run h.und, goInt]
theorem Gives.lenStr {x : Operand} {s : ByteArray} {T : TypeId} (hu : P.underlying T = some .string) (ho : o.op = .call { callee := .builtin .len, args := #[x], argTypes := #[T] }) (hx : ev S x = some (.string s)) : Gives P n o (i64 s.size) S H := fun a w hf _ => by
  unfold execOp; rw [ho]; simp [resolve, invoke, builtin, Builtin.len_, hf.ev hx, und_run hu, goInt]
theorem obj_of {H : Heap} {w : World} (hh : Holds H w) {b : Nat} {es : List MapEntry} {k : Nat} (hm : (b, HO.map es k) ∈ H) : w.heap[b]? = some (.map es.toArray k) := hh b _ hm
theorem getMap_run {H : Heap} {w : World} (hh : Holds H w) {b : Nat} {es : List MapEntry} {k : Nat} (hm : (b, HO.map es k) ∈ H) : (getObj b).run P w = .ok (.map es.toArray k) w := by
  simp [getObj, Sem.run, obj_of hh hm]
theorem Gives.lenMap {x : Operand} {T k e b clk : Nat} {es : List MapEntry} [h : MapOf P T k e] (i : Nat) (ho : o.op = .call { callee := .builtin .len, args := #[x], argTypes := #[T] }) (hx : ev S x = some (.map (some b))) (hp : H[i]? = some [(b, .map es clk)]) : Gives P n o (i64 es.length) S H := fun a w hf hh => by
  unfold execOp; rw [ho]; simp [resolve, invoke, builtin, Builtin.len_, hf.ev hx, und_run h.und, goInt, getMap_run hh (mem_one hp)]
end
end Go.Proofs.YE
namespace Go.Proofs.YE
open Go

class ZeroC (P : Program) (T : TypeId) (cs : outParam (List Value)) : Prop where
  zero : (P.info? T).map (fun i => i.zero.map (·.cells.toList)) = some (some cs)

section
variable {P : Program} {Q : Exit → Act → World → Prop} {c : Cx} {S : Slots} {H : Hs} {o : Oper} {K : Act → World → Prop}

theorem zeroC_run {T : Nat} {cs : List Value} [h : ZeroC P T cs] {w : World} : ∃ z, (zeroValue T).run P w = .ok z w ∧ z.cells = cs.toArray := by
  have hz := h.zero
  cases hi : P.info? T with
  | none => rw [hi] at hz; cases hz
  | some i =>
    rw [hi] at hz
    simp only [Option.map_some, Option.some.injEq, Option.map_eq_some_iff] at hz
    obtain ⟨z, h1, h2⟩ := hz
    exact ⟨z, by simp [zeroValue, typeInfo, hi, h1], by rw [← h2]⟩

/-! ### A new block -/
theorem heap_alloc_old {w : World} {o : Obj} {b : Nat} (hb : b < w.heap.size) : (w.alloc o).heap[b]? = w.heap[b]? := by
  simp only [World.alloc]; rw [Array.getElem?_push_lt hb, Array.getElem?_eq_getElem hb]
theorem heap_alloc_new {w : World} {o : Obj} : (w.alloc o).heap[w.heap.size]? = some o := by unfold World.alloc; simp
theorem St.alloc {w0 w : World} {K0 : List Nat} {H : Heap} (h : St w0 K0 w H) (o : HO) : St w0 K0 (w.alloc o.obj') ((w.heap.size, o) :: H) := by
  have hn : w.heap.size ∉ keys H := fun hm => Nat.lt_irrefl _ (h.has.lt hm)
  refine ⟨⟨fun b o' hm => ?_, ?_⟩, ⟨h.keep.os, h.keep.tape, h.keep.output, ?_, fun b hb hk => ?_⟩, fun k hk => ?_⟩
  · rcases List.mem_cons.1 hm with e | h1
    · cases e; exact heap_alloc_new
    · have := h.has.1 b o' h1
      rw [heap_alloc_old (Array.getElem?_eq_some_iff.1 this).1, this]
  · exact List.nodup_cons.2 ⟨hn, h.has.2⟩
  · have := h.keep.size; simp; omega
  · rw [heap_alloc_old (Nat.lt_of_lt_of_le hb h.keep.size), h.keep.block b hb hk]
  · rcases List.mem_cons.1 hk with e | h1
    · exact .inr (e ▸ h.keep.size)
    · exact h.fresh k h1

/-- An operation that lays one block. -/
theorem J.new {d : Nat} {f : Nat → Value} {ho : HO} (hrun : ∀ a w, Fr a c.n S → Holds H.flatten w → (execOp a.eval o).run P w = .ok (.value (f w.heap.size)) (w.alloc ho.obj'))
    (hd : o.dst = some d) (hn : Nat.blt d c.n = true) (h : ∀ b, J c K ((d, f b) :: S) ([(b, ho)] :: H)) : J c (OW P o K Q) S H :=
  fun a w hf hs => by
    show o.upon P a K Q ((execOp a.eval o).run P w)
    rw [hrun a w hf hs.has.1, Oper.upon_value, hd]
    exact h w.heap.size _ _ (hf.put hn _) (by simpa using hs.alloc ho)

theorem J.alloc {T : TypeId} {d : Nat} {cs : List Value} [ZeroC P T cs] (ho : o.op = .alloc T) (hd : o.dst = some d) (hn : Nat.blt d c.n = true)
    (h : ∀ b, J c K ((d, ptr b 0) :: S) ([(b, .cells cs T (0, 0))] :: H)) : J c (OW P o K Q) S H :=
  J.new (f := fun b => ptr b 0) (ho := .cells cs T (0, 0)) (fun a w _ _ => by
    obtain ⟨z, h1, h2⟩ := zeroC_run (P := P) (T := T) (w := w)
    unfold execOp; rw [ho]
    simp [Instr.alloc, h1, newVar, newRow, h2, HO.obj']) hd hn h
theorem J.box {T : TypeId} {x : Operand} {d : Nat} {v : Value} {cs : List Value} (ho : o.op = .box T x) (hx : ev S x = some v) (hv : v.cells = cs.toArray) (hd : o.dst = some d) (hn : Nat.blt d c.n = true)
    (h : ∀ b, J c K ((d, ptr b 0) :: S) ([(b, .cells cs T (0, 0))] :: H)) : J c (OW P o K Q) S H :=
  J.new (f := fun b => ptr b 0) (ho := .cells cs T (0, 0)) (fun a w hf _ => by
    unfold execOp; rw [ho]
    simp [Instr.box, hf.ev hx, newVar, newRow, hv, HO.obj']) hd hn h
theorem J.makeMap {T : TypeId} {d : Nat} (ho : o.op = .makeMap T none) (hd : o.dst = some d) (hn : Nat.blt d c.n = true)
    (h : ∀ b, J c K ((d, .map (some b)) :: S) ([(b, .map [] 0)] :: H)) : J c (OW P o K Q) S H :=
  J.new (f := fun b => .map (some b)) (ho := .map [] 0) (fun a w hf _ => by
    unfold execOp; rw [ho]
    simp [Instr.makeMap, HO.obj']) hd hn h

/-! ### A block turned -/
def setBlk (w : World) (b : Nat) (o : Obj) : World := { w with heap := w.heap.setIfInBounds b o }
theorem setBlk_same {w : World} {b : Nat} {o : Obj} (h : b < w.heap.size) : (setBlk w b o).heap[b]? = some o := by simp [setBlk, h]
theorem setBlk_other {w : World} {b k : Nat} {o : Obj} (h : b ≠ k) : (setBlk w b o).heap[k]? = w.heap[k]? := by
  simp only [setBlk]; exact Array.getElem?_setIfInBounds_ne h
theorem St.turn {w0 w : World} {K0 : List Nat} {A B : Heap} {b : Nat} {o : HO} (h : St w0 K0 w (A ++ (b, o) :: B)) (o' : HO) : St w0 K0 (setBlk w b o'.obj') (A ++ (b, o') :: B) := by
  have hk : keys (A ++ (b, o') :: B) = keys (A ++ (b, o) :: B) := by unfold keys; simp
  have hnd := h.has.2
  have hb : b ∈ keys (A ++ (b, o) :: B) := by unfold keys; simp
  refine ⟨⟨fun k p hm => ?_, by rw [hk]; exact hnd⟩, ⟨h.keep.os, h.keep.tape, h.keep.output, ?_, fun k hk1 hk2 => ?_⟩, by rw [hk]; exact h.fresh⟩
  · by_cases e : b = k
    · subst e
      have : p = o' := by
        unfold keys at hnd
        rw [List.map_append, List.map_cons] at hnd
        have h1 := (List.nodup_append.1 hnd)
        rcases List.mem_append.1 hm with h2 | h2
        · exact absurd rfl (h1.2.2 b (List.mem_map.2 ⟨_, h2, rfl⟩) b (by simp))
        · rcases List.mem_cons.1 h2 with h3 | h3
          · cases h3; rfl
          · exact absurd (List.mem_map.2 ⟨_, h3, rfl⟩) (List.nodup_cons.1 h1.2.1).1
      subst this
      exact setBlk_same (h.has.lt hb)
    · rw [setBlk_other e]
      refine h.has.1 k p ?_
      rcases List.mem_append.1 hm with h2 | h2
      · exact List.mem_append.2 (.inl h2)
      · rcases List.mem_cons.1 h2 with h3 | h3
        · cases h3; exact absurd rfl e
        · exact List.mem_append.2 (.inr (List.mem_cons_of_mem _ h3))
  · simpa [setBlk] using h.keep.size
  · rw [setBlk_other, h.keep.block k hk1 hk2]
    rintro rfl
    rcases h.fresh b hb with h1 | h1
    · exact hk2 h1
    · omega

theorem flat_set {H : Hs} : ∀ {i : Nat} {x : Nat × HO}, H[i]? = some [x] → ∃ A B, H.flatten = A ++ x :: B ∧ ∀ y, (H.set i [y]).flatten = A ++ y :: B := by
  induction H with
  | nil => intro i x h; simp at h
  | cons p r ih =>
    intro i x h
    cases i with
    | zero => simp at h; subst h; exact ⟨[], r.flatten, by simp, fun y => by simp⟩
    | succ i =>
      simp only [List.getElem?_cons_succ] at h
      obtain ⟨A, B, h1, h2⟩ := ih h
      exact ⟨p ++ A, B, by simp [h1], fun y => by simp [h2]⟩

/-- An operation that turns one block and leaves a value. -/
theorem J.turn {d : Nat} {v : Value} {b i : Nat} {ho ho' : HO} (hp : H[i]? = some [(b, ho)]) (hrun : ∀ a w, Fr a c.n S → Holds H.flatten w → (execOp a.eval o).run P w = .ok (.value v) (setBlk w b ho'.obj'))
    (hd : o.dst = some d) (hn : Nat.blt d c.n = true) (h : J c K ((d, v) :: S) (H.set i [(b, ho')])) : J c (OW P o K Q) S H :=
  fun a w hf hs => by
    show o.upon P a K Q ((execOp a.eval o).run P w)
    rw [hrun a w hf hs.has.1, Oper.upon_value, hd]
    obtain ⟨A, B, h1, h2⟩ := flat_set hp
    refine h _ _ (hf.put hn _) ?_
    rw [h2]; rw [h1] at hs
    exact hs.turn ho'
theorem J.turn0 {b i : Nat} {ho ho' : HO} (hp : H[i]? = some [(b, ho)]) (hrun : ∀ a w, Fr a c.n S → Holds H.flatten w → (execOp a.eval o).run P w = .ok .skip (setBlk w b ho'.obj'))
    (hd : o.dst = none) (h : J c K S (H.set i [(b, ho')])) : J c (OW P o K Q) S H :=
  fun a w hf hs => by
    show o.upon P a K Q ((execOp a.eval o).run P w)
    rw [hrun a w hf hs.has.1, Oper.upon_skip, hd]
    obtain ⟨A, B, h1, h2⟩ := flat_set hp
    refine h _ _ hf ?_
    rw [h2]; rw [h1] at hs
    exact hs.turn ho'

/-! ### A store -/
def splice (l : List Value) (k : Nat) (vs : List Value) : List Value := l.take k ++ vs ++ l.drop (k + vs.length)
def noFz (z : Nat × Nat) (k m : Nat) : Bool := Nat.ble (k + m) z.1 || Nat.ble z.2 k
theorem setCell_blk {w : World} {b k : Nat} {l : List Value} {e : TypeId} {z : Nat × Nat} {v : Value} (h : w.heap[b]? = some (.cells l.toArray e z)) :
    w.setCell ⟨b, k, none⟩ v = setBlk w b (.cells (l.set k v).toArray e z) := by
  simp only [World.setCell, setBlk]
  congr 1
  apply Array.ext_getElem?
  intro j
  have hb := (Array.getElem?_eq_some_iff.1 h).1
  by_cases e1 : b = j
  · subst e1
    rw [Array.getElem?_modify, if_pos rfl, h]
    simp [hb]
  · rw [Array.getElem?_modify, if_neg e1, Array.getElem?_setIfInBounds_ne e1]
theorem setBlk_setBlk {w : World} {b : Nat} {o o' : Obj} : setBlk (setBlk w b o) b o' = setBlk w b o' := by
  simp only [setBlk]; congr 1; simp
theorem setBlk_self {w : World} {b : Nat} {o : Obj} (h : w.heap[b]? = some o) : setBlk w b o = w := by
  simp only [setBlk]
  have : w.heap.setIfInBounds b o = w.heap := by
    apply Array.ext_getElem?
    intro j
    by_cases e : b = j
    · subst e
      have hb := (Array.getElem?_eq_some_iff.1 h).1
      have := (Array.getElem?_eq_some_iff.1 h).2
      simp [hb, this]
    · rw [Array.getElem?_setIfInBounds_ne e]
  rw [this]
theorem storeCells_run {b k : Nat} {e : TypeId} {z : Nat × Nat} : ∀ (vs : List Value) (i : Nat) (w : World) (l : List Value), w.heap[b]? = some (.cells l.toArray e z) → k + i + vs.length ≤ l.length →
    (∀ v, v ∈ vs → v.oneCell' = true) → (∀ j, j < vs.length → z.2 ≤ k + i + j ∨ k + i + j < z.1) → (storeCells ⟨b, k, none⟩ vs i).run P w = .ok () (setBlk w b (.cells (splice l (k + i) vs).toArray e z)) := by
  intro vs
  induction vs with
  | nil =>
    intro i w l h hl ho hz
    have : splice l (k + i) [] = l := by simp [splice]
    rw [this, setBlk_self h]; simp [storeCells]
  | cons v r ih =>
    intro i w l h hl ho hz
    simp only [List.length_cons] at hl
    have hk : k + i < l.length := by omega
    have hadd : (Addr.add ⟨b, k, none⟩ i) = ⟨b, k + i, none⟩ := by
      by_cases h0 : i = 0
      · subst h0; simp [Addr.add]
      · simp [Addr.add, h0]
    have hc : w.cell? ⟨b, k + i, none⟩ = some l[k + i] := by simp [World.cell?, h, hk]
    have hf : w.frozen? ⟨b, k + i, none⟩ = false := by
      have := hz 0 (by simp)
      simp only [World.frozen?, h]
      simp
      omega
    have hst : (store ⟨b, k + i, none⟩ v).run P w = .ok () (w.setCell ⟨b, k + i, none⟩ v) := by
      rw [run_store P w _ v _ (ho v (by simp)), hc]
      simp [hf]
    rw [setCell_blk h] at hst
    have hb := (Array.getElem?_eq_some_iff.1 h).1
    have := ih (i + 1) (setBlk w b (.cells (l.set (k + i) v).toArray e z)) (l.set (k + i) v) (setBlk_same hb) (by simp; omega) (fun u hu => ho u (by simp [hu])) (fun j hj => by
      have := hz (j + 1) (by simp; omega)
      have e1 : k + (i + 1) + j = k + i + (j + 1) := by omega
      rw [e1]; exact this)
    simp only [storeCells, hadd]
    simp only [Sem.run_bind, hst, Result.andThen_ok]
    rw [this, setBlk_setBlk]
    congr 3
    have e2 : splice (l.set (k + i) v) (k + (i + 1)) r = splice l (k + i) (v :: r) := by
      simp only [splice, List.length_cons]
      have h1 : (l.set (k + i) v).take (k + (i + 1)) = l.take (k + i) ++ [v] := by
        rw [show k + (i + 1) = (k + i) + 1 by omega, List.take_succ_eq_append_getElem (by simpa using hk)]
        simp [List.take_set_of_le]
      have h2 : (l.set (k + i) v).drop (k + (i + 1) + r.length) = l.drop (k + i + (r.length + 1)) := by
        rw [List.drop_set_of_lt (by omega)]
        congr 1; omega
      rw [h1, h2]; simp
    rw [e2]

theorem J.store1 {T : TypeId} {x y : Operand} {b k : Nat} {l : List Value} {e : TypeId} {z : Nat × Nat} {v : Value} [hT : Siz P T 1] (i : Nat) (ho : o.op = .store T x y) (hx : ev S x = some (ptr b k)) (hy : ev S y = some v)
    (hv : v.oneCell' = true) (hp : H[i]? = some [(b, .cells l e z)]) (hl : Nat.blt k l.length = true) (hz : noFz z k 1 = true) (hd : o.dst = none)
    {H' : Hs} (hH : H.set i [(b, .cells (l.set k v) e z)] = H') (h : J c K S H') : J c (OW P o K Q) S H :=
  J.turn0 (ho' := .cells (l.set k v) e z) hp (fun a w hf hh => by
    have hl : k < l.length := by simpa [Nat.blt_eq] using hl
    have hw := hh b _ (mem_one hp)
    have hcs : v.cells = #[v] := by cases v <;> first | rfl | (simp [Value.oneCell'] at hv)
    have h1 := storeCells_run (P := P) (k := k) [v] 0 w l hw (by simp; omega) (by simpa using hv) (fun j hj => by
      simp [noFz] at hz
      simp at hj
      omega)
    have h2 : splice l (k + 0) [v] = l.set k v := by
      simp only [splice, Nat.add_zero, List.length_singleton]
      rw [List.set_eq_take_append_cons_drop, if_pos hl]; simp
    rw [h2] at h1
    unfold execOp; rw [ho]
    simp [hf.ev hx, hf.ev hy, Instr.storeAt, Instr.sureAddr, storeVar, size_run hT.size, hcs, h1, HO.obj']) hd (by rw [hH]; exact h)
theorem J.storeA {T : TypeId} {x y : Operand} {b k : Nat} {l vs : List Value} {e : TypeId} {z : Nat × Nat} {m : Nat} [hT : Siz P T m] (i : Nat) (ho : o.op = .store T x y) (hx : ev S x = some (ptr b k)) (hy : ev S y = some (.agg vs.toArray))
    (hm : vs.length = m) (hv : ∀ v, v ∈ vs → v.oneCell' = true) (hp : H[i]? = some [(b, .cells l e z)]) (hl : Nat.ble (k + vs.length) l.length = true) (hz : noFz z k vs.length = true) (hd : o.dst = none)
    {H' : Hs} (hH : H.set i [(b, .cells (splice l k vs) e z)] = H') (h : J c K S H') : J c (OW P o K Q) S H :=
  J.turn0 (ho' := .cells (splice l k vs) e z) hp (fun a w hf hh => by
    have hl : k + vs.length ≤ l.length := by simpa using hl
    have hw := hh b _ (mem_one hp)
    have h1 := storeCells_run (P := P) (k := k) vs 0 w l hw (by omega) hv (fun j hj => by
      simp [noFz] at hz
      omega)
    unfold execOp; rw [ho]
    subst hm; simp [hf.ev hx, hf.ev hy, Instr.storeAt, Instr.sureAddr, storeVar, size_run hT.size, Value.cells, h1, HO.obj']) hd (by rw [hH]; exact h)
end
/-! ### What kind of operation stands next -/
section
variable {P : Program} {Q : Exit → Act → World → Prop} {c : Cx} {S : Slots} {H : Hs} {K : Act → World → Prop} {dst : Option Nat} {ty : TypeId} {pos : String} {after : Array Edge} {g : Option (Nat × Bool)}
theorem J.isMove {x : Operand} (h : J c (OW P ⟨dst, .move x, ty, pos, after, g⟩ K Q) S H) : J c (OW P ⟨dst, .move x, ty, pos, after, g⟩ K Q) S H := h
theorem J.isAssign {x : Operand} (h : J c (OW P ⟨dst, .assign x, ty, pos, after, g⟩ K Q) S H) : J c (OW P ⟨dst, .assign x, ty, pos, after, g⟩ K Q) S H := h
theorem J.isPick {x y z : Operand} (h : J c (OW P ⟨dst, .pick x y z, ty, pos, after, g⟩ K Q) S H) : J c (OW P ⟨dst, .pick x y z, ty, pos, after, g⟩ K Q) S H := h
theorem J.isAlloc {T : TypeId} (h : J c (OW P ⟨dst, .alloc T, ty, pos, after, g⟩ K Q) S H) : J c (OW P ⟨dst, .alloc T, ty, pos, after, g⟩ K Q) S H := h
theorem J.isBox {T : TypeId} {x : Operand} (h : J c (OW P ⟨dst, .box T x, ty, pos, after, g⟩ K Q) S H) : J c (OW P ⟨dst, .box T x, ty, pos, after, g⟩ K Q) S H := h
theorem J.isBuild {T : TypeId} {ps : Array (Nat × Operand)} (h : J c (OW P ⟨dst, .build T ps, ty, pos, after, g⟩ K Q) S H) : J c (OW P ⟨dst, .build T ps, ty, pos, after, g⟩ K Q) S H := h
theorem J.isBuildSlice {T m : Nat} {ps : Array (Nat × Operand)} (h : J c (OW P ⟨dst, .buildSlice T m ps, ty, pos, after, g⟩ K Q) S H) : J c (OW P ⟨dst, .buildSlice T m ps, ty, pos, after, g⟩ K Q) S H := h
theorem J.isLoad {T : TypeId} {x : Operand} (h : J c (OW P ⟨dst, .load T x, ty, pos, after, g⟩ K Q) S H) : J c (OW P ⟨dst, .load T x, ty, pos, after, g⟩ K Q) S H := h
theorem J.isStore {T : TypeId} {x y : Operand} (h : J c (OW P ⟨dst, .store T x y, ty, pos, after, g⟩ K Q) S H) : J c (OW P ⟨dst, .store T x y, ty, pos, after, g⟩ K Q) S H := h
theorem J.isNilCheck {x : Operand} (h : J c (OW P ⟨dst, .nilCheck x, ty, pos, after, g⟩ K Q) S H) : J c (OW P ⟨dst, .nilCheck x, ty, pos, after, g⟩ K Q) S H := h
theorem J.isBin {b : BinOp} {T U : TypeId} {x y : Operand} (h : J c (OW P ⟨dst, .binOp b T x y U, ty, pos, after, g⟩ K Q) S H) : J c (OW P ⟨dst, .binOp b T x y U, ty, pos, after, g⟩ K Q) S H := h
theorem J.isUn {u : UnOp} {T : TypeId} {x : Operand} (h : J c (OW P ⟨dst, .unOp u T x, ty, pos, after, g⟩ K Q) S H) : J c (OW P ⟨dst, .unOp u T x, ty, pos, after, g⟩ K Q) S H := h
theorem J.isConv {T U : TypeId} {x : Operand} (h : J c (OW P ⟨dst, .convert T U x, ty, pos, after, g⟩ K Q) S H) : J c (OW P ⟨dst, .convert T U x, ty, pos, after, g⟩ K Q) S H := h
theorem J.isMakeFunc {f : Fn} {xs ys : Array Operand} (h : J c (OW P ⟨dst, .makeFunc f xs ys, ty, pos, after, g⟩ K Q) S H) : J c (OW P ⟨dst, .makeFunc f xs ys, ty, pos, after, g⟩ K Q) S H := h
theorem J.isMakeMap {T : TypeId} {r : Option Operand} (h : J c (OW P ⟨dst, .makeMap T r, ty, pos, after, g⟩ K Q) S H) : J c (OW P ⟨dst, .makeMap T r, ty, pos, after, g⟩ K Q) S H := h
theorem J.isMakeSlice {T : TypeId} {x y : Operand} (h : J c (OW P ⟨dst, .makeSlice T x y, ty, pos, after, g⟩ K Q) S H) : J c (OW P ⟨dst, .makeSlice T x y, ty, pos, after, g⟩ K Q) S H := h
theorem J.isSlice {T : TypeId} {x : Operand} {lo hi mx : Option Operand} (h : J c (OW P ⟨dst, .slice T x lo hi mx, ty, pos, after, g⟩ K Q) S H) : J c (OW P ⟨dst, .slice T x lo hi mx, ty, pos, after, g⟩ K Q) S H := h
theorem J.isFieldAddr {T : TypeId} {x : Operand} {f : Nat} (h : J c (OW P ⟨dst, .fieldAddr T x f, ty, pos, after, g⟩ K Q) S H) : J c (OW P ⟨dst, .fieldAddr T x f, ty, pos, after, g⟩ K Q) S H := h
theorem J.isField {T : TypeId} {x : Operand} {f : Nat} (h : J c (OW P ⟨dst, .field T x f, ty, pos, after, g⟩ K Q) S H) : J c (OW P ⟨dst, .field T x f, ty, pos, after, g⟩ K Q) S H := h
theorem J.isIndexAddr {T : TypeId} {x y : Operand} (h : J c (OW P ⟨dst, .indexAddr T x y, ty, pos, after, g⟩ K Q) S H) : J c (OW P ⟨dst, .indexAddr T x y, ty, pos, after, g⟩ K Q) S H := h
theorem J.isIndex {T : TypeId} {x y : Operand} (h : J c (OW P ⟨dst, .index T x y, ty, pos, after, g⟩ K Q) S H) : J c (OW P ⟨dst, .index T x y, ty, pos, after, g⟩ K Q) S H := h
theorem J.isLookup {T : TypeId} {x y : Operand} {t : Bool} (h : J c (OW P ⟨dst, .lookup T x y t, ty, pos, after, g⟩ K Q) S H) : J c (OW P ⟨dst, .lookup T x y t, ty, pos, after, g⟩ K Q) S H := h
theorem J.isMapUpdate {T : TypeId} {x y z : Operand} (h : J c (OW P ⟨dst, .mapUpdate T x y z, ty, pos, after, g⟩ K Q) S H) : J c (OW P ⟨dst, .mapUpdate T x y z, ty, pos, after, g⟩ K Q) S H := h
theorem J.isMapEntry {T : TypeId} {x y : Operand} (h : J c (OW P ⟨dst, .mapEntry T x y, ty, pos, after, g⟩ K Q) S H) : J c (OW P ⟨dst, .mapEntry T x y, ty, pos, after, g⟩ K Q) S H := h
theorem J.isEntryStore {T : TypeId} {x y z : Operand} (h : J c (OW P ⟨dst, .entryStore T x y z, ty, pos, after, g⟩ K Q) S H) : J c (OW P ⟨dst, .entryStore T x y z, ty, pos, after, g⟩ K Q) S H := h
theorem J.isRange {T : TypeId} {x : Operand} (h : J c (OW P ⟨dst, .range T x, ty, pos, after, g⟩ K Q) S H) : J c (OW P ⟨dst, .range T x, ty, pos, after, g⟩ K Q) S H := h
theorem J.isNext {x : Operand} {t : Bool} (h : J c (OW P ⟨dst, .next x t, ty, pos, after, g⟩ K Q) S H) : J c (OW P ⟨dst, .next x t, ty, pos, after, g⟩ K Q) S H := h
theorem J.isEntry {x : Operand} (h : J c (OW P ⟨dst, .entry x, ty, pos, after, g⟩ K Q) S H) : J c (OW P ⟨dst, .entry x, ty, pos, after, g⟩ K Q) S H := h
theorem J.isExtract {x : Operand} {i : Nat} (h : J c (OW P ⟨dst, .extract x i, ty, pos, after, g⟩ K Q) S H) : J c (OW P ⟨dst, .extract x i, ty, pos, after, g⟩ K Q) S H := h
theorem J.isCall {k : Call} (h : J c (OW P ⟨dst, .call k, ty, pos, after, g⟩ K Q) S H) : J c (OW P ⟨dst, .call k, ty, pos, after, g⟩ K Q) S H := h
theorem J.isBuiltin {b : Builtin} {xs : Array Operand} {ats : Array TypeId} (h : J c (OW P ⟨dst, .call { callee := .builtin b, args := xs, argTypes := ats }, ty, pos, after, g⟩ K Q) S H) : J c (OW P ⟨dst, .call { callee := .builtin b, args := xs, argTypes := ats }, ty, pos, after, g⟩ K Q) S H := h
theorem J.isCallF {f : FuncId} {xs : Array Operand} {ats : Array TypeId} (h : J c (OW P ⟨dst, .call { callee := .value (.func f), args := xs, argTypes := ats }, ty, pos, after, g⟩ K Q) S H) : J c (OW P ⟨dst, .call { callee := .value (.func f), args := xs, argTypes := ats }, ty, pos, after, g⟩ K Q) S H := h
theorem J.isCallV {t : Nat} {xs : Array Operand} {ats : Array TypeId} (h : J c (OW P ⟨dst, .call { callee := .value (.tmp t), args := xs, argTypes := ats }, ty, pos, after, g⟩ K Q) S H) : J c (OW P ⟨dst, .call { callee := .value (.tmp t), args := xs, argTypes := ats }, ty, pos, after, g⟩ K Q) S H := h
end
section
variable {P : Program} {c : Cx} {S : Slots} {H : Hs} {K : Act → World → Prop} {T' : Heap} {dst : Option Nat} {ty : TypeId} {pos : String} {after : Array Edge} {g : Option (Nat × Bool)}
theorem J.itMove {x : Operand} (h : J c (OT P T' ⟨dst, .move x, ty, pos, after, g⟩ K) S H) : J c (OT P T' ⟨dst, .move x, ty, pos, after, g⟩ K) S H := h
theorem J.itAssign {x : Operand} (h : J c (OT P T' ⟨dst, .assign x, ty, pos, after, g⟩ K) S H) : J c (OT P T' ⟨dst, .assign x, ty, pos, after, g⟩ K) S H := h
theorem J.itPick {x y z : Operand} (h : J c (OT P T' ⟨dst, .pick x y z, ty, pos, after, g⟩ K) S H) : J c (OT P T' ⟨dst, .pick x y z, ty, pos, after, g⟩ K) S H := h
theorem J.itAlloc {T : TypeId} (h : J c (OT P T' ⟨dst, .alloc T, ty, pos, after, g⟩ K) S H) : J c (OT P T' ⟨dst, .alloc T, ty, pos, after, g⟩ K) S H := h
theorem J.itBox {T : TypeId} {x : Operand} (h : J c (OT P T' ⟨dst, .box T x, ty, pos, after, g⟩ K) S H) : J c (OT P T' ⟨dst, .box T x, ty, pos, after, g⟩ K) S H := h
theorem J.itBuild {T : TypeId} {ps : Array (Nat × Operand)} (h : J c (OT P T' ⟨dst, .build T ps, ty, pos, after, g⟩ K) S H) : J c (OT P T' ⟨dst, .build T ps, ty, pos, after, g⟩ K) S H := h
theorem J.itBuildSlice {T m : Nat} {ps : Array (Nat × Operand)} (h : J c (OT P T' ⟨dst, .buildSlice T m ps, ty, pos, after, g⟩ K) S H) : J c (OT P T' ⟨dst, .buildSlice T m ps, ty, pos, after, g⟩ K) S H := h
theorem J.itLoad {T : TypeId} {x : Operand} (h : J c (OT P T' ⟨dst, .load T x, ty, pos, after, g⟩ K) S H) : J c (OT P T' ⟨dst, .load T x, ty, pos, after, g⟩ K) S H := h
theorem J.itStore {T : TypeId} {x y : Operand} (h : J c (OT P T' ⟨dst, .store T x y, ty, pos, after, g⟩ K) S H) : J c (OT P T' ⟨dst, .store T x y, ty, pos, after, g⟩ K) S H := h
theorem J.itNilCheck {x : Operand} (h : J c (OT P T' ⟨dst, .nilCheck x, ty, pos, after, g⟩ K) S H) : J c (OT P T' ⟨dst, .nilCheck x, ty, pos, after, g⟩ K) S H := h
theorem J.itBin {b : BinOp} {T U : TypeId} {x y : Operand} (h : J c (OT P T' ⟨dst, .binOp b T x y U, ty, pos, after, g⟩ K) S H) : J c (OT P T' ⟨dst, .binOp b T x y U, ty, pos, after, g⟩ K) S H := h
theorem J.itUn {u : UnOp} {T : TypeId} {x : Operand} (h : J c (OT P T' ⟨dst, .unOp u T x, ty, pos, after, g⟩ K) S H) : J c (OT P T' ⟨dst, .unOp u T x, ty, pos, after, g⟩ K) S H := h
theorem J.itConv {T U : TypeId} {x : Operand} (h : J c (OT P T' ⟨dst, .convert T U x, ty, pos, after, g⟩ K) S H) : J c (OT P T' ⟨dst, .convert T U x, ty, pos, after, g⟩ K) S H := h
theorem J.itMakeFunc {f : Fn} {xs ys : Array Operand} (h : J c (OT P T' ⟨dst, .makeFunc f xs ys, ty, pos, after, g⟩ K) S H) : J c (OT P T' ⟨dst, .makeFunc f xs ys, ty, pos, after, g⟩ K) S H := h
theorem J.itMakeMap {T : TypeId} {r : Option Operand} (h : J c (OT P T' ⟨dst, .makeMap T r, ty, pos, after, g⟩ K) S H) : J c (OT P T' ⟨dst, .makeMap T r, ty, pos, after, g⟩ K) S H := h
theorem J.itMakeSlice {T : TypeId} {x y : Operand} (h : J c (OT P T' ⟨dst, .makeSlice T x y, ty, pos, after, g⟩ K) S H) : J c (OT P T' ⟨dst, .makeSlice T x y, ty, pos, after, g⟩ K) S H := h
theorem J.itSlice {T : TypeId} {x : Operand} {lo hi mx : Option Operand} (h : J c (OT P T' ⟨dst, .slice T x lo hi mx, ty, pos, after, g⟩ K) S H) : J c (OT P T' ⟨dst, .slice T x lo hi mx, ty, pos, after, g⟩ K) S H := h
theorem J.itFieldAddr {T : TypeId} {x : Operand} {f : Nat} (h : J c (OT P T' ⟨dst, .fieldAddr T x f, ty, pos, after, g⟩ K) S H) : J c (OT P T' ⟨dst, .fieldAddr T x f, ty, pos, after, g⟩ K) S H := h
theorem J.itField {T : TypeId} {x : Operand} {f : Nat} (h : J c (OT P T' ⟨dst, .field T x f, ty, pos, after, g⟩ K) S H) : J c (OT P T' ⟨dst, .field T x f, ty, pos, after, g⟩ K) S H := h
theorem J.itIndexAddr {T : TypeId} {x y : Operand} (h : J c (OT P T' ⟨dst, .indexAddr T x y, ty, pos, after, g⟩ K) S H) : J c (OT P T' ⟨dst, .indexAddr T x y, ty, pos, after, g⟩ K) S H := h
theorem J.itIndex {T : TypeId} {x y : Operand} (h : J c (OT P T' ⟨dst, .index T x y, ty, pos, after, g⟩ K) S H) : J c (OT P T' ⟨dst, .index T x y, ty, pos, after, g⟩ K) S H := h
theorem J.itLookup {T : TypeId} {x y : Operand} {t : Bool} (h : J c (OT P T' ⟨dst, .lookup T x y t, ty, pos, after, g⟩ K) S H) : J c (OT P T' ⟨dst, .lookup T x y t, ty, pos, after, g⟩ K) S H := h
theorem J.itMapUpdate {T : TypeId} {x y z : Operand} (h : J c (OT P T' ⟨dst, .mapUpdate T x y z, ty, pos, after, g⟩ K) S H) : J c (OT P T' ⟨dst, .mapUpdate T x y z, ty, pos, after, g⟩ K) S H := h
theorem J.itMapEntry {T : TypeId} {x y : Operand} (h : J c (OT P T' ⟨dst, .mapEntry T x y, ty, pos, after, g⟩ K) S H) : J c (OT P T' ⟨dst, .mapEntry T x y, ty, pos, after, g⟩ K) S H := h
theorem J.itEntryStore {T : TypeId} {x y z : Operand} (h : J c (OT P T' ⟨dst, .entryStore T x y z, ty, pos, after, g⟩ K) S H) : J c (OT P T' ⟨dst, .entryStore T x y z, ty, pos, after, g⟩ K) S H := h
theorem J.itRange {T : TypeId} {x : Operand} (h : J c (OT P T' ⟨dst, .range T x, ty, pos, after, g⟩ K) S H) : J c (OT P T' ⟨dst, .range T x, ty, pos, after, g⟩ K) S H := h
theorem J.itNext {x : Operand} {t : Bool} (h : J c (OT P T' ⟨dst, .next x t, ty, pos, after, g⟩ K) S H) : J c (OT P T' ⟨dst, .next x t, ty, pos, after, g⟩ K) S H := h
theorem J.itEntry {x : Operand} (h : J c (OT P T' ⟨dst, .entry x, ty, pos, after, g⟩ K) S H) : J c (OT P T' ⟨dst, .entry x, ty, pos, after, g⟩ K) S H := h
theorem J.itExtract {x : Operand} {i : Nat} (h : J c (OT P T' ⟨dst, .extract x i, ty, pos, after, g⟩ K) S H) : J c (OT P T' ⟨dst, .extract x i, ty, pos, after, g⟩ K) S H := h
theorem J.itCall {k : Call} (h : J c (OT P T' ⟨dst, .call k, ty, pos, after, g⟩ K) S H) : J c (OT P T' ⟨dst, .call k, ty, pos, after, g⟩ K) S H := h
theorem J.itBuiltin {b : Builtin} {xs : Array Operand} {ats : Array TypeId} (h : J c (OT P T' ⟨dst, .call { callee := .builtin b, args := xs, argTypes := ats }, ty, pos, after, g⟩ K) S H) : J c (OT P T' ⟨dst, .call { callee := .builtin b, args := xs, argTypes := ats }, ty, pos, after, g⟩ K) S H := h
theorem J.itCallF {f : FuncId} {xs : Array Operand} {ats : Array TypeId} (h : J c (OT P T' ⟨dst, .call { callee := .value (.func f), args := xs, argTypes := ats }, ty, pos, after, g⟩ K) S H) : J c (OT P T' ⟨dst, .call { callee := .value (.func f), args := xs, argTypes := ats }, ty, pos, after, g⟩ K) S H := h
theorem J.itCallV {t : Nat} {xs : Array Operand} {ats : Array TypeId} (h : J c (OT P T' ⟨dst, .call { callee := .value (.tmp t), args := xs, argTypes := ats }, ty, pos, after, g⟩ K) S H) : J c (OT P T' ⟨dst, .call { callee := .value (.tmp t), args := xs, argTypes := ats }, ty, pos, after, g⟩ K) S H := h
end
end Go.Proofs.YE
namespace Go.Proofs.YE
open Go

/-! ### Association lists -/
section
variable {κ ν : Type} [DecidableEq κ]
def aget (m : List (κ × ν)) (k : κ) : Option ν := (m.find? (fun p => decide (p.1 = k))).map (·.2)
def aset (m : List (κ × ν)) (k : κ) (v : ν) : List (κ × ν) := if (m.map (·.1)).contains k then m.map (fun p => if p.1 = k then (p.1, v) else p) else m ++ [(k, v)]
def adel (m : List (κ × ν)) (k : κ) : List (κ × ν) := m.filter (fun p => !decide (p.1 = k))
end

/-- How keys of a type are found. -/
structure KeyLaw (P : Program) (kt : TypeId) {κ : Type} [DecidableEq κ] (enc : κ → Value) : Prop where
  check : ∀ (e : Bool) (a : κ) (w : World), (Instr.checkKey e 10000 kt (enc a)).run P w = .ok () w
  find : ∀ (a : κ) (l : List (κ × Value × Nat)) (w : World), (Instr.findKey kt (enc a) (l.map fun x => ⟨enc x.1, x.2.1, x.2.2⟩)).run P w =
    .ok ((l.zipIdx.find? (fun x => decide (x.1.1 = a))).map (fun x => (x.2, x.1.2.1))) w
  same : ∀ (a : κ), Instr.sameBits 10000 (enc a) (enc a) = true

theorem findNow_int {k : IntKind} (d : IntKind) (a : Int) : ∀ (l : List (Int × Value × Nat)) (i : Nat), Instr.findNow (.int d) (.int k a) (l.map fun x => ⟨.int k x.1, x.2.1, x.2.2⟩) i =
    some (((l.zipIdx i).find? (fun x => decide (x.1.1 = a))).map (fun x => (x.2, x.1.2.1))) := by
  intro l
  induction l with
  | nil => intro i; simp [Instr.findNow]
  | cons x r ih =>
    intro i
    simp only [List.map_cons, Instr.findNow, Instr.sameNow, if_true, List.zipIdx_cons, List.find?_cons]
    by_cases h : x.1 = a
    · simp [h]
    · have h1 : (a == x.1) = false := by simpa using fun e => h e.symm
      simp only [h1, h, decide_false]
      exact ih (i + 1)

theorem keyLaw_int {P : Program} {kt : TypeId} {d : IntKind} (h : P.underlying kt = some (.int d)) (k : IntKind) : KeyLaw P kt (fun n : Int => Value.int k n) where
  check := fun e a w => by rw [show (10000 : Nat) = 9999 + 1 from rfl, Instr.checkKey]; simp only [Sem.run_bind, und_run h, Result.andThen_ok]; simp
  find := fun a l w => by
    have := findNow_int (k := k) d a l 0
    simp only [Instr.findKey, Sem.run_bind, und_run h, Result.andThen_ok, this]
    simp
  same := fun a => by rw [show (10000 : Nat) = 9999 + 1 from rfl, Instr.sameBits]; simp

/-- The entries of a map's block, told by a list. -/
structure MapOK {κ ν : Type} (enc : κ → Value) (encV : ν → Value) (m : List (κ × ν)) (es : List MapEntry) (clk : Nat) : Prop where
  keys : es.map (·.key) = m.map (fun p => enc p.1)
  vals : es.map (·.val) = m.map (fun p => encV p.2)
  nodup : (m.map (·.1)).Nodup
  born : es.Pairwise (fun a b => a.born < b.born)
  lt : ∀ e, e ∈ es → e.born < clk

section
variable {κ ν : Type} {enc : κ → Value} {encV : ν → Value} {m : List (κ × ν)} {es : List MapEntry} {clk : Nat}
theorem MapOK.nil : MapOK enc encV ([] : List (κ × ν)) [] 0 := ⟨rfl, rfl, by simp, by simp, by simp⟩
theorem MapOK.len (h : MapOK enc encV m es clk) : es.length = m.length := by have := congrArg List.length h.keys; simpa using this
/-- As triples. -/
theorem MapOK.triples (h : MapOK enc encV m es clk) : ∃ l : List (κ × Value × Nat), es = l.map (fun x => ⟨enc x.1, x.2.1, x.2.2⟩) ∧ l.map (fun x => x.1) = m.map (·.1) ∧ l.map (fun x => x.2.1) = m.map (fun p => encV p.2) := by
  have hk := h.keys
  have hv := h.vals
  clear h
  induction es generalizing m with
  | nil => cases m <;> simp_all
  | cons e r ih =>
    cases m with
    | nil => simp at hk
    | cons p q =>
      simp only [List.map_cons, List.cons.injEq] at hk hv
      obtain ⟨l, h1, h2, h3⟩ := ih hk.2 hv.2
      refine ⟨(p.1, e.val, e.born) :: l, ?_, by simp [h2], by simp [h3, hv.1]⟩
      simp only [List.map_cons, ← h1, ← hk.1]
end

section
variable {κ ν : Type} [DecidableEq κ] {enc : κ → Value} {encV : ν → Value} {m : List (κ × ν)} {es : List MapEntry} {clk : Nat} {P : Program} {kt : TypeId}

theorem zip_find : ∀ (l : List (κ × Value × Nat)) (m : List (κ × ν)) (i : Nat) (k : κ), l.map (fun x => x.1) = m.map (·.1) → l.map (fun x => x.2.1) = m.map (fun p => encV p.2) →
    (((l.zipIdx i).find? (fun x => decide (x.1.1 = k))).map (fun x => (x.2, x.1.2.1))).map (·.2) = (aget m k).map encV := by
  intro l
  induction l with
  | nil => intro m i k h1 h2; cases m <;> simp_all [aget]
  | cons x r ih =>
    intro m i k h1 h2
    cases m with
    | nil => simp at h1
    | cons p q =>
      simp only [List.map_cons, List.cons.injEq] at h1 h2
      simp only [List.zipIdx_cons, List.find?_cons, aget]
      by_cases e : x.1 = k
      · have e' : p.1 = k := by rw [← h1.1]; exact e
        simp [e, e', h2.1]
      · have e' : ¬ p.1 = k := by rw [← h1.1]; exact e
        simp only [e, e', decide_false]
        have := ih q (i + 1) k h1.2 h2.2
        simpa [aget] using this

theorem MapOK.find (hk : KeyLaw P kt enc) (h : MapOK enc encV m es clk) (k : κ) (w : World) : ∃ r, (Instr.findKey kt (enc k) es).run P w = .ok r w ∧ r.map (·.2) = (aget m k).map encV := by
  obtain ⟨l, h1, h2, h3⟩ := h.triples
  exact ⟨_, by rw [h1]; exact hk.find k l w, zip_find l m 0 k h2 h3⟩

variable {n : Nat} {S : Slots} {H : Hs} {o : Oper} {c : Cx} {Q : Exit → Act → World → Prop} {K : Act → World → Prop}

theorem find_run {T e b : Nat} [hT : MapOf P T kt e] (hk : KeyLaw P kt enc) (hm : MapOK enc encV m es clk) {w : World} {H : Heap} (hh : Holds H w) (hp : (b, HO.map es clk) ∈ H) (k : κ) (t : Bool) {z : Value} (hz : (zeroValue e).run P w = .ok z w) :
    (Instr.lookup T (.map (some b)) (enc k) t).run P w = .ok (if t then .tuple #[((aget m k).map encV).getD z, .bool (aget m k).isSome] else ((aget m k).map encV).getD z) w := by
  obtain ⟨r, h1, h2⟩ := hm.find hk k w
  have hg := getMap_run (P := P) hh hp
  unfold Instr.lookup
  simp only [Sem.run_bind, und_run hT.und, Result.andThen_ok, hg, Sem.run_pure, hk.check]
  rw [h1]
  cases r with
  | none =>
    have h3 : (aget m k).map encV = none := by simpa using h2.symm
    have h4 : aget m k = none := by simpa using h3
    cases t <;> simp [hz, h4]
  | some p =>
    obtain ⟨j, v⟩ := p
    simp only [Option.map_some] at h2
    have h4 : ∃ u, aget m k = some u ∧ encV u = v := by
      cases hu : aget m k with
      | none => rw [hu] at h2; simp at h2
      | some u => rw [hu] at h2; simp at h2; exact ⟨u, rfl, h2.symm⟩
    obtain ⟨u, h5, h6⟩ := h4
    cases t <;> simp [h5, h6]

/-- A look-up, 'v' alone. -/
theorem Gives.look {T e b : Nat} {x y : Operand} {k : κ} {z : Value} [hT : MapOf P T kt e] [hz : Zero P e z] (i : Nat) (hk : KeyLaw P kt enc) (hm : MapOK enc encV m es clk) (ho : o.op = .lookup T x y false) (hx : ev S x = some (.map (some b))) (hy : ev S y = some (enc k))
    (hp : H[i]? = some [(b, .map es clk)]) : Gives P n o (((aget m k).map encV).getD z) S H := fun a w hf hh => by
  have := find_run (P := P) (kt := kt) hk hm hh (mem_one hp) k false (T := T) (zero_run (P := P) (T := e) (w := w))
  unfold execOp; rw [ho]; simp [hf.ev hx, hf.ev hy, this]
/-- 'v, ok'. -/
theorem Gives.lookOk {T e b : Nat} {x y : Operand} {k : κ} {z : Value} [hT : MapOf P T kt e] [hz : Zero P e z] (i : Nat) (hk : KeyLaw P kt enc) (hm : MapOK enc encV m es clk) (ho : o.op = .lookup T x y true) (hx : ev S x = some (.map (some b))) (hy : ev S y = some (enc k))
    (hp : H[i]? = some [(b, .map es clk)]) : Gives P n o (.tuple #[((aget m k).map encV).getD z, .bool (aget m k).isSome]) S H := fun a w hf hh => by
  have := find_run (P := P) (kt := kt) hk hm hh (mem_one hp) k true (T := T) (zero_run (P := P) (T := e) (w := w))
  unfold execOp; rw [ho]; simp [hf.ev hx, hf.ev hy, this]

/-! ### A store -/
theorem MapOK.push (hm : MapOK enc encV m es clk) (k : κ) (v : ν) (hk : (m.map (·.1)).contains k = false) : MapOK enc encV (aset m k v) (es ++ [⟨enc k, encV v, clk⟩]) (clk + 1) := by
  have e : aset m k v = m ++ [(k, v)] := by unfold aset; rw [hk]; rfl
  have hk' : k ∉ m.map (·.1) := by intro h; have := List.contains_iff_mem.2 h; rw [hk] at this; cases this
  rw [e]
  refine ⟨by simp [hm.keys], by simp [hm.vals], ?_, ?_, ?_⟩
  · rw [List.map_append, List.nodup_append]
    exact ⟨hm.nodup, by simp, fun a ha b hb hab => by simp at hb; subst hb; subst hab; exact hk' ha⟩
  · rw [List.pairwise_append]
    exact ⟨hm.born, by simp, fun a ha b hb => by simp at hb; subst hb; exact hm.lt a ha⟩
  · intro x hx
    rcases List.mem_append.1 hx with h | h
    · exact Nat.lt_succ_of_lt (hm.lt x h)
    · simp at h; subst h; exact Nat.lt_succ_self _

theorem zip_set : ∀ (l : List (κ × Value × Nat)) (m : List (κ × ν)) (i : Nat) (k : κ) (v : ν) (j : Nat) (u : Value), l.map (fun x => x.1) = m.map (·.1) → (m.map (·.1)).Nodup →
    ((l.zipIdx i).find? (fun x => decide (x.1.1 = k))).map (fun x => (x.2, x.1.2.1)) = some (j, u) →
    i ≤ j ∧ j - i < l.length ∧ (∃ p, m[j - i]? = some p ∧ p.1 = k) ∧ m.map (fun p => if p.1 = k then (p.1, v) else p) = m.modify (j - i) (fun p => (p.1, v)) := by
  intro l
  induction l with
  | nil => intro m i k v j u h1 h2 h; simp at h
  | cons x r ih =>
    intro m i k v j u h1 h2 h
    cases m with
    | nil => simp at h1
    | cons p q =>
      simp only [List.map_cons, List.cons.injEq] at h1
      simp only [List.map_cons, List.nodup_cons] at h2
      simp only [List.zipIdx_cons, List.find?_cons] at h
      by_cases e : x.1 = k
      · simp only [e, decide_true, Option.map_some, Option.some.injEq, Prod.mk.injEq] at h
        obtain ⟨rfl, _⟩ := h
        have e' : p.1 = k := by rw [← h1.1]; exact e
        refine ⟨Nat.le_refl _, by simp, ⟨p, by simp, e'⟩, ?_⟩
        simp only [Nat.sub_self, List.map_cons, e', if_true, List.modify_zero_cons]
        congr 1
        rw [List.map_congr_left (g := id)]
        · simp
        · intro y hy
          have : y.1 ≠ k := fun he => h2.1 (by rw [e', ← he]; exact List.mem_map.2 ⟨y, hy, rfl⟩)
          simp [this]
      · have e' : ¬ p.1 = k := by rw [← h1.1]; exact e
        simp only [e, decide_false] at h
        obtain ⟨g1, g2, g3, g4⟩ := ih q (i + 1) k v j u h1.2 h2.2 h
        have e2 : j - i = (j - (i + 1)) + 1 := by omega
        refine ⟨by omega, by simp; omega, ?_, ?_⟩
        · rw [e2]; simpa using g3
        · rw [e2]; simp only [List.map_cons, e', if_false, List.modify_succ_cons, g4]

omit [DecidableEq κ] in
theorem MapOK.modify (hm : MapOK enc encV m es clk) (j : Nat) (k : κ) (v : ν) {p : κ × ν} (hp : m[j]? = some p) (hpk : p.1 = k) :
    MapOK enc encV (m.modify j (fun p => (p.1, v))) (es.modify j (fun e => { e with key := enc k, val := encV v })) clk := by
  have hkeys : es.map (·.key) = m.map (fun p => enc p.1) := hm.keys
  refine ⟨?_, ?_, ?_, ?_, ?_⟩
  · apply List.ext_getElem?
    intro i
    have := congrArg (fun l => l[i]?) hkeys
    simp only [List.getElem?_map, List.getElem?_modify] at this ⊢
    by_cases e : j = i
    · subst e
      rw [hp] at this ⊢
      simp only [Option.map_some] at this ⊢
      cases hes : es[j]? with
      | none => rw [hes] at this; simp at this
      | some x => simp [hpk]
    · simp only [e, if_false]
      simpa using this
  · apply List.ext_getElem?
    intro i
    have := congrArg (fun l => l[i]?) hm.vals
    have hlen := congrArg (fun l => l[i]?) hkeys
    simp only [List.getElem?_map, List.getElem?_modify] at this hlen ⊢
    by_cases e : j = i
    · subst e
      rw [hp] at hlen ⊢
      cases hes : es[j]? with
      | none => rw [hes] at hlen; simp at hlen
      | some x => simp
    · simp only [e, if_false]
      simpa using this
  · have : (m.modify j (fun p => (p.1, v))).map (·.1) = m.map (·.1) := by
      apply List.ext_getElem?
      intro i
      simp only [List.getElem?_map, List.getElem?_modify]
      by_cases e : j = i
      · simp only [e, if_true]; cases m[i]? <;> simp
      · simp [e]
    rw [this]; exact hm.nodup
  · have hb : ∀ l : List MapEntry, l.Pairwise (fun a b => a.born < b.born) ↔ (l.map (·.born)).Pairwise (· < ·) := fun l => by rw [List.pairwise_map]
    rw [hb]
    have : (es.modify j (fun e => { e with key := enc k, val := encV v })).map (·.born) = es.map (·.born) := by
      apply List.ext_getElem?
      intro i
      simp only [List.getElem?_map, List.getElem?_modify]
      by_cases e : j = i
      · simp only [e, if_true]; cases es[i]? <;> simp
      · simp [e]
    rw [this, ← hb]; exact hm.born
  · intro x hx
    obtain ⟨i, hi⟩ := List.mem_iff_getElem?.1 hx
    rw [List.getElem?_modify] at hi
    by_cases e : j = i
    · simp only [e, if_true] at hi
      cases hes : es[i]? with
      | none => rw [hes] at hi; simp at hi
      | some y => rw [hes] at hi; simp at hi; subst hi; exact hm.lt y (List.mem_of_getElem? hes)
    · simp only [e, if_false] at hi
      exact hm.lt x (List.mem_of_getElem? (by simpa using hi))

theorem update_run {T e b : Nat} [hT : MapOf P T kt e] (hk : KeyLaw P kt enc) (hm : MapOK enc encV m es clk) {w : World} {H : Heap} (hh : Holds H w) (hp : (b, HO.map es clk) ∈ H) (k : κ) (v : ν) :
    ∃ es' clk', MapOK enc encV (aset m k v) es' clk' ∧ (Instr.mapUpdate T (.map (some b)) (enc k) (encV v)).run P w = .ok () (setBlk w b (HO.map es' clk').obj') := by
  obtain ⟨l, h1, h2, h3⟩ := hm.triples
  have hg := getMap_run (P := P) hh hp
  have hw := obj_of hh hp
  have hset : ∀ es' : Array MapEntry, ∀ c', (setObj b (.map es' c')).run P w = .ok () (setBlk w b (.map es' c')) := fun es' c' => by
    simp [setObj, Sem.run, hw, setBlk]
  have hf := hk.find k l w
  rw [← h1] at hf
  unfold Instr.mapUpdate
  simp only [Sem.run_bind, und_run hT.und, Result.andThen_ok, hg, hk.check]
  rw [hf]
  cases hr : (l.zipIdx.find? (fun x => decide (x.1.1 = k))).map (fun x => (x.2, x.1.2.1)) with
  | none =>
    refine ⟨es ++ [⟨enc k, encV v, clk⟩], clk + 1, hm.push k v ?_, ?_⟩
    · have hz := zip_find (encV := encV) l m 0 k h2 h3
      rw [hr] at hz
      have : aget m k = none := by simpa using hz.symm
      simp only [aget, Option.map_eq_none_iff, List.find?_eq_none, decide_eq_true_eq] at this
      cases hc : (m.map (·.1)).contains k with
      | false => rfl
      | true =>
        obtain ⟨p, hp1, hp2⟩ := List.mem_map.1 (List.contains_iff_mem.1 hc)
        exact absurd hp2 (this p hp1)
    · simp only [Result.andThen_ok, hset]
      simp [HO.obj']
  | some r =>
    obtain ⟨j, u⟩ := r
    obtain ⟨_, _, ⟨p, g3, g4⟩, g5⟩ := zip_set l m 0 k v j u h2 hm.nodup hr
    simp only [Nat.sub_zero] at g3 g5
    have hc : (m.map (·.1)).contains k = true := List.contains_iff_mem.2 (List.mem_map.2 ⟨p, List.mem_of_getElem? g3, g4⟩)
    have ha : aset m k v = m.modify j (fun p => (p.1, v)) := by unfold aset; rw [hc, if_pos rfl]; exact g5
    refine ⟨es.modify j (fun e => { e with key := enc k, val := encV v }), clk, by rw [ha]; exact hm.modify j k v g3 g4, ?_⟩
    have hkey : ((es.toArray[j]?).map (·.key)).getD (enc k) = enc k := by
      have := congrArg (fun l => l[j]?) hm.keys
      simp only [List.getElem?_map, g3, Option.map_some, g4] at this
      simp [this]
    simp only [Result.andThen_ok, hkey]
    have hs : (Instr.keyThatStays (enc k) (enc k)).run P w = .ok (enc k) w := by simp [Instr.keyThatStays, hk.same]
    simp only [Sem.run_bind, hs, Result.andThen_ok, hset]
    simp [HO.obj']

theorem J.mapUpdate {T e b : Nat} {x y z : Operand} {k : κ} {v : ν} [hT : MapOf P T kt e] (i : Nat) (hk : KeyLaw P kt enc) (hm : MapOK enc encV m es clk) (ho : o.op = .mapUpdate T x y z) (hx : ev S x = some (.map (some b))) (hy : ev S y = some (enc k)) (hz : ev S z = some (encV v))
    (hp : H[i]? = some [(b, .map es clk)]) (hd : o.dst = none) {H' : List MapEntry → Nat → Hs} (hH : ∀ es' clk', H.set i [(b, .map es' clk')] = H' es' clk') (h : ∀ es' clk', MapOK enc encV (aset m k v) es' clk' → J c K S (H' es' clk')) : J c (OW P o K Q) S H :=
  fun a w hf hs => by
    obtain ⟨es', clk', h1, h2⟩ := update_run (P := P) (kt := kt) hk hm hs.has.1 (mem_one hp) k v (T := T)
    show o.upon P a K Q ((execOp a.eval o).run P w)
    have : (execOp a.eval o).run P w = .ok .skip (setBlk w b (HO.map es' clk').obj') := by unfold execOp; rw [ho]; simp [hf.ev hx, hf.ev hy, hf.ev hz, h2]
    rw [this, Oper.upon_skip, hd]
    obtain ⟨A, B, g1, g2⟩ := flat_set hp
    refine h es' clk' h1 _ _ hf ?_
    rw [← hH, g2]; rw [g1] at hs
    exact hs.turn _
end
end Go.Proofs.YE
namespace Go.Proofs.YE
open Go

section
variable {P : Program} {kt : TypeId} {n : Nat} {S : Slots} {H : Hs} {o : Oper} {c : Cx} {Q : Exit → Act → World → Prop} {K : Act → World → Prop} {es : List MapEntry} {clk : Nat}

theorem setMap_run {H : Heap} {w : World} {b : Nat} (hh : Holds H w) (hp : (b, HO.map es clk) ∈ H) (es' : Array MapEntry) (c' : Nat) : (setObj b (.map es' c')).run P w = .ok () (setBlk w b (.map es' c')) := by
  simp [setObj, Sem.run, obj_of hh hp, setBlk]

/-! ### Ranging over a map that stays as it is -/
theorem J.range {T kt' e b d : Nat} {x : Operand} [hT : MapOf P T kt' e] (i : Nat) (ho : o.op = .range T x) (hx : ev S x = some (.map (some b))) (hp : H[i]? = some [(b, .map es clk)]) (hd : o.dst = some d) (hn : Nat.blt d c.n = true)
    (h : ∀ r, J c K ((d, ptr r 0) :: S) ([(r, .obj (.mapIter (some b) clk #[] clk))] :: H)) : J c (OW P o K Q) S H :=
  J.new (f := fun b => ptr b 0) (ho := .obj (.mapIter (some b) clk #[] clk)) (fun a w hf hh => by
    have hg := getMap_run (P := P) hh (mem_one hp)
    unfold execOp; rw [ho]
    simp [hf.ev hx, Instr.range, und_run hT.und, hg, HO.obj']) hd hn h
theorem J.rangeNil {T kt' e d : Nat} {x : Operand} [hT : MapOf P T kt' e] (ho : o.op = .range T x) (hx : ev S x = some (.map none)) (hd : o.dst = some d) (hn : Nat.blt d c.n = true)
    (h : ∀ r, J c K ((d, ptr r 0) :: S) ([(r, .obj (.mapIter none 0 #[] 0))] :: H)) : J c (OW P o K Q) S H :=
  J.new (f := fun b => ptr b 0) (ho := .obj (.mapIter none 0 #[] 0)) (fun a w hf hh => by
    unfold execOp; rw [ho]
    simp [hf.ev hx, Instr.range, und_run hT.und, HO.obj']) hd hn h

/-- The iterator behind those entries. -/
abbrev iter (b clk : Nat) (dn : List MapEntry) : HO := .obj (.mapIter (some b) clk (dn.map (·.born)).toArray clk)

def nextStep (r b clk : Nat) (bs : List Nat) : Option (Option MapEntry) → Sem Value
  | some (some e) => do
    setObj r (.mapIter (some b) clk (bs.toArray.push e.born) clk)
    pure (.tuple #[.bool true, e.key, e.val])
  | some none => pure (.tuple #[.bool false])
  | none => stuck "Next: no such candidate"
theorem next_run {w : World} {H : Heap} {b r : Nat} {dn : List MapEntry} {ty : TypeId} (hh : Holds H w) (hm : (b, HO.map es clk) ∈ H) (hr : (r, iter b clk dn) ∈ H) (hlt : ∀ e, e ∈ es → e.born < clk) :
    ((∀ e, e ∈ es → e.born ∈ dn.map (·.born)) ∧ (Instr.next (ptr r 0) false ty).run P w = .ok (.tuple #[.bool false]) w) ∨
    ∃ e w', e ∈ es ∧ e.born ∉ dn.map (·.born) ∧ (w' = w ∨ w' = { w with drawn := w.drawn + 1 }) ∧
      (Instr.next (ptr r 0) false ty).run P w = .ok (.tuple #[.bool true, e.key, e.val]) (setBlk w' r (iter b clk (dn ++ [e])).obj') := by
  have hg := getMap_run (P := P) hh hm
  have hw := hh r _ hr
  have hi : (getObj r).run P w = .ok (.mapIter (some b) clk (dn.map (·.born)).toArray clk) w := by
    simp only [HO.obj'] at hw; simp [getObj, Sem.run, hw]
  have hset : ∀ (w' : World), w'.heap = w.heap → ∀ s, (setObj r (.mapIter (some b) clk s clk)).run P w' = .ok () (setBlk w' r (.mapIter (some b) clk s clk)) := fun w' hw' s => by
    simp only [HO.obj'] at hw; simp [setObj, Sem.run, hw', hw, setBlk]
  have hall : (es.toArray.all (fun e => decide (e.born ≥ clk))) = decide (es = []) := by
    cases es with
    | nil => simp
    | cons e r =>
      have := hlt e (by simp)
      simp; intro h; omega
  have hnot : (!(dn.map (·.born)).toArray.isEmpty && !es.toArray.isEmpty && es.toArray.all (fun e => decide (e.born ≥ clk))) = false := by
    rw [hall]; cases es <;> simp
  generalize hL : (es.filter fun e => !(dn.map (·.born)).contains e.born) = L
  have hLa : (es.toArray.filter fun e => !(dn.map (·.born)).toArray.contains e.born) = L.toArray := by
    rw [← hL]; simp
  have hold : (L.toArray.filter fun e => decide (e.born < clk)) = L.toArray := by
    have : L.filter (fun e => decide (e.born < clk)) = L := List.filter_eq_self.2 fun e he => by
      rw [← hL] at he; simpa using hlt e (List.mem_filter.1 he).1
    simp [this]
  have hnew : (L.toArray.filter fun e => decide (e.born ≥ clk)) = #[] := by
    have : L.filter (fun e => decide (e.born ≥ clk)) = [] := List.filter_eq_nil_iff.2 fun e he => by
      rw [← hL] at he; have := hlt e (List.mem_filter.1 he).1; simp; omega
    simp [this]
  have hrun : (Instr.next (ptr r 0) false ty).run P w = (do
      let candidates := (if L.toArray.isEmpty then #[none] else #[]) ++ (L.toArray ++ #[]).map some
      nextStep r b clk (dn.map (·.born)) (candidates[← choose (.mapNext candidates.size)]?) : Sem Value).run P w := by
    unfold Instr.next
    simp only [Sem.run_bind, hi, Result.andThen_ok, hg, hnot, hLa, hold, hnew]
    simp only [Bool.false_eq_true, if_false, Sem.run_bind]
    congr 1
  rw [hrun]
  cases hLc : L with
  | nil =>
    left
    refine ⟨fun e he => ?_, ?_⟩
    · have : e ∉ L := by rw [hLc]; simp
      rw [← hL, List.mem_filter] at this
      simp only [he, true_and, Bool.not_eq_true', Bool.not_eq_false, List.contains_iff_mem] at this
      exact this
    · simp [choose, Sem.run, Question.forced, nextStep]
  | cons e0 r0 =>
    right
    have hmem : ∀ e, e ∈ L → e ∈ es ∧ e.born ∉ dn.map (·.born) := fun e he => by
      rw [← hL, List.mem_filter] at he
      refine ⟨he.1, fun h => ?_⟩
      have := List.contains_iff_mem.2 h
      rw [this] at he; simp at he
    have hcand : (if (e0 :: r0).toArray.isEmpty then #[none] else #[]) ++ ((e0 :: r0).toArray ++ #[]).map some = ((e0 :: r0).map some).toArray := by simp
    simp only [hcand]
    have key : ∀ (k : Nat) (w' : World), k < (e0 :: r0).length → w'.heap = w.heap → ∃ e, e ∈ e0 :: r0 ∧ (nextStep r b clk (dn.map (·.born)) (((e0 :: r0).map some).toArray[k]?)).run P w' = .ok (.tuple #[.bool true, e.key, e.val]) (setBlk w' r (iter b clk (dn ++ [e])).obj') := by
      intro k w' hk hw'
      refine ⟨(e0 :: r0)[k], List.getElem_mem hk, ?_⟩
      have : ((e0 :: r0).map some).toArray[k]? = some (some (e0 :: r0)[k]) := by
        simp only [List.getElem?_toArray, List.getElem?_map, List.getElem?_eq_getElem hk, Option.map_some]
      rw [this]
      simp only [nextStep, Sem.run_bind, hset w' hw', Result.andThen_ok, Sem.run_pure]
      simp [HO.obj']
    simp only [Sem.run_bind, choose, Sem.run, List.size_toArray, List.length_map]
    by_cases hf : (Question.mapNext (e0 :: r0).length).forced = true
    · rw [if_pos hf]
      obtain ⟨e, h1, h2⟩ := key 0 w (by simp) rfl
      exact ⟨e, w, (hmem e (hLc ▸ h1)).1, (hmem e (hLc ▸ h1)).2, .inl rfl, h2⟩
    · rw [if_neg hf]
      obtain ⟨e, h1, h2⟩ := key (Question.cut (.mapNext (e0 :: r0).length) (w.tape w.drawn (.mapNext (e0 :: r0).length))) { w with drawn := w.drawn + 1 } (by simp only [Question.cut]; exact Nat.mod_lt _ (by simp)) rfl
      exact ⟨e, _, (hmem e (hLc ▸ h1)).1, (hmem e (hLc ▸ h1)).2, .inr rfl, h2⟩

/-- The next entry: none is left, or one that has not come. -/
theorem J.next {b r d i j : Nat} {x : Operand} {dn : List MapEntry} (hlt : ∀ e, e ∈ es → e.born < clk) (ho : o.op = .next x false) (hx : ev S x = some (ptr r 0)) (hm : H[i]? = some [(b, .map es clk)]) (hr : H[j]? = some [(r, iter b clk dn)])
    (hd : o.dst = some d) (hn : Nat.blt d c.n = true) {H' : MapEntry → Hs} (hH : ∀ e, H.set j [(r, iter b clk (dn ++ [e]))] = H' e)
    (h0 : (∀ e, e ∈ es → e.born ∈ dn.map (·.born)) → J c K ((d, .tuple #[.bool false]) :: S) H)
    (h1 : ∀ e, e ∈ es → e.born ∉ dn.map (·.born) → J c K ((d, .tuple #[.bool true, e.key, e.val]) :: S) (H' e)) : J c (OW P o K Q) S H :=
  fun a w hf hs => by
    show o.upon P a K Q ((execOp a.eval o).run P w)
    have hex : (execOp a.eval o).run P w = ((Instr.next (ptr r 0) false o.type).run P w).andThen fun v w => .ok (.value v) w := by
      unfold execOp; rw [ho]; simp [hf.ev hx]
    rw [hex]
    rcases next_run (P := P) (ty := o.type) hs.has.1 (mem_one hm) (mem_one hr) hlt with ⟨g1, g2⟩ | ⟨e, w', g1, g2, g3, g4⟩
    · rw [g2, Result.andThen_ok, Oper.upon_value, hd]
      exact h0 g1 _ _ (hf.put hn _) hs
    · rw [g4, Result.andThen_ok, Oper.upon_value, hd]
      obtain ⟨A, B, q1, q2⟩ := flat_set hr
      refine h1 e g1 g2 _ _ (hf.put hn _) ?_
      rw [← hH, q2]; rw [q1] at hs
      rcases g3 with rfl | rfl
      · exact hs.turn _
      · exact hs.drew.turn _
theorem Gives.nextNil {r : Nat} {x : Operand} (i : Nat) (ho : o.op = .next x false) (hx : ev S x = some (ptr r 0)) (hr : H[i]? = some [(r, .obj (.mapIter none 0 #[] 0))]) : Gives P n o (.tuple #[.bool false]) S H := fun a w hf hh => by
  have hw := hh r _ (mem_one hr)
  have hi : (getObj r).run P w = .ok (.mapIter none 0 #[] 0) w := by simp only [HO.obj'] at hw; simp [getObj, Sem.run, hw]
  unfold execOp; rw [ho]; simp [hf.ev hx, Instr.next, hi]
/-- The entry that has just come. -/
theorem Gives.entry {b r : Nat} {x : Operand} {dn : List MapEntry} {e : MapEntry} (i j : Nat) (hb : es.Pairwise (fun a b => a.born < b.born)) (he : e ∈ es) (ho : o.op = .entry x) (hx : ev S x = some (ptr r 0)) (hm : H[i]? = some [(b, .map es clk)]) (hr : H[j]? = some [(r, iter b clk (dn ++ [e]))]) :
    Gives P n o (.tuple #[e.key, e.val]) S H := fun a w hf hh => by
  have hg := getMap_run (P := P) hh (mem_one hm)
  have hw := hh r _ (mem_one hr)
  have hi : (getObj r).run P w = .ok (.mapIter (some b) clk ((dn ++ [e]).map (·.born)).toArray clk) w := by simp only [HO.obj'] at hw; simp [getObj, Sem.run, hw]
  have hback : (((dn ++ [e]).map (·.born)).toArray.back?) = some e.born := by simp
  have hfind : es.find? (fun x => x.born == e.born) = some e := by
    clear hg hm
    induction es with
    | nil => cases he
    | cons y q ih =>
      rw [List.find?_cons]
      rw [List.pairwise_cons] at hb
      rcases List.mem_cons.1 he with rfl | he'
      · simp
      · have := hb.1 e he'
        have h' : (y.born == e.born) = false := by simp; omega
        rw [h']; exact ih hb.2 he'
  unfold execOp; rw [ho]
  simp only [hf.ev hx, Instr.entry, Sem.run_bind, hi, Result.andThen_ok, hback, hg]
  simp [hfind]

/-- Once all have come, what has come is the whole, in some order. -/
theorem perm_of_all {dn : List MapEntry} (hb : es.Pairwise (fun a b => a.born < b.born)) (hn : dn.Nodup) (hs : ∀ e, e ∈ dn → e ∈ es) (hall : ∀ e, e ∈ es → e.born ∈ dn.map (·.born)) : dn.Perm es := by
  have hinj : ∀ x y, x ∈ es → y ∈ es → x.born = y.born → x = y := by
    clear hs hall hn
    induction es with
    | nil => intro x y hx; cases hx
    | cons z q ih =>
      rw [List.pairwise_cons] at hb
      intro x y hx hy hxy
      rcases List.mem_cons.1 hx with rfl | hx' <;> rcases List.mem_cons.1 hy with rfl | hy'
      · rfl
      · have := hb.1 y hy'; omega
      · have := hb.1 x hx'; omega
      · exact ih hb.2 x y hx' hy' hxy
  have hes : es.Nodup := hb.imp fun h e => by subst e; omega
  refine (List.perm_ext_iff_of_nodup hn hes).2 fun e => ⟨hs e, fun he => ?_⟩
  obtain ⟨e', h1, h2⟩ := List.mem_map.1 (hall e he)
  rw [← hinj e' e (hs e' h1) he h2]; exact h1
end
end Go.Proofs.YE
namespace Go.Proofs.YE
open Go

class InfoOf (P : Program) (e : TypeId) (z : outParam (List Value)) (size bytes : outParam Nat) : Prop where
  info : (P.info? e).map (fun i => (i.zero.map (·.cells.toList), i.size, i.bytes)) = some (some z, size, bytes)

/-- A slice that is nil, or the head of a block of its own: n elements, their cells. -/
def Sl (e sz : Nat) (v : Value) (n : Nat) (cs : List Value) (Hx : Heap) : Prop :=
  (v = nils ∧ n = 0 ∧ cs = [] ∧ Hx = []) ∨
  ∃ b cap rest, v = slc b 0 n cap ∧ Hx = [(b, .cells (cs ++ rest) e (0, 0))] ∧ cs.length = n * sz ∧ (cs ++ rest).length = cap * sz ∧ n ≤ cap ∧ cap ≤ maxLen

section
variable {P : Program} {n : Nat} {S : Slots} {H : Hs} {o : Oper} {c : Cx} {Q : Exit → Act → World → Prop} {K : Act → World → Prop}

theorem Sl.nil (e sz : Nat) : Sl e sz nils 0 [] [] := .inl ⟨rfl, rfl, rfl, rfl⟩
theorem Sl.len {e sz : Nat} {v : Value} {n : Nat} {cs : List Value} {Hx : Heap} (h : Sl e sz v n cs Hx) : cs.length = n * sz := by
  rcases h with ⟨_, rfl, rfl, _⟩ | ⟨b, cap, rest, _, _, h, _⟩
  · simp
  · exact h
theorem Sl.le {e sz : Nat} {v : Value} {n : Nat} {cs : List Value} {Hx : Heap} (h : Sl e sz v n cs Hx) : n ≤ maxLen := by
  rcases h with ⟨_, rfl, _, _⟩ | ⟨b, cap, rest, _, _, _, _, h1, h2⟩
  · exact Nat.zero_le _
  · exact Nat.le_trans h1 h2

theorem Sl.owns {e sz : Nat} {v : Value} {n : Nat} {cs : List Value} {Hx : Heap} {w : World} (h : Sl e sz v n cs Hx) (hh : Holds Hx w) : w.ownsRow 0 e sz v n cs := by
  refine ⟨h.len, ?_⟩
  rcases h with ⟨rfl, rfl, rfl, _⟩ | ⟨b, cap, rest, rfl, rfl, h1, h2, h3, h4⟩
  · exact .inl ⟨rfl, rfl⟩
  · exact .inr ⟨b, cap, (cs ++ rest).toArray, rfl, Nat.zero_le _, by have := hh b (.cells (cs ++ rest) e (0, 0)) (by simp); simpa [HO.obj'] using this, h3, h4, by simpa using h2, by simp [← h1]⟩

theorem Holds.sub {A B : Heap} {w : World} (h : Holds B w) (hs : ∀ x, x ∈ A → x ∈ B) : Holds A w := fun b o hm => h b o (hs _ hm)

/-- A world that has grown, and whose turned block is told anew. -/
theorem St.grown {w0 w w' : World} {K0 : List Nat} {B : Heap} {e sz : Nat} {v v' : Value} {n n' : Nat} {cs cs' : List Value} {Hx : Heap} (hs : St w0 K0 w (Hx ++ B)) (hv : Sl e sz v n cs Hx)
    (hg : w.grownBy w' v.ownBlock) (hown : w'.ownsRow 0 e sz v' n' cs') (hloc : ∀ g, v'.ownBlock = some g → v.ownBlock = some g ∨ w.heap.size ≤ g) :
    ∃ Hx', Sl e sz v' n' cs' Hx' ∧ St w0 K0 w' (Hx' ++ B) := by
  have hnd := hs.has.2
  unfold keys at hnd
  rw [List.map_append, List.nodup_append] at hnd
  -- where the slice's own block lies
  have hown1 : ∀ g, v.ownBlock = some g → g ∈ keys Hx := by
    intro g hgv
    rcases hv with ⟨rfl, _, _, _⟩ | ⟨b', cap, rest, rfl, rfl, _⟩
    · simp [Value.ownBlock] at hgv
    · simp only [Value.ownBlock, Option.some.injEq] at hgv; subst hgv; simp [keys]
  have hbes : ∀ b, b ∈ keys B → some b ≠ v.ownBlock := fun b hb heq => hnd.2.2 b (hown1 b heq.symm) b hb rfl
  have hblk : ∀ b o, (b, o) ∈ B → w'.heap[b]? = some o.obj' := by
    intro b o hm'
    have hw := hs.has.1 b o (List.mem_append.2 (.inr hm'))
    rw [hg.block b (Array.getElem?_eq_some_iff.1 hw).1 (hbes b (List.mem_map.2 ⟨_, hm', rfl⟩)), hw]
  have hkeep : Keep K0 w0 w' := by
    refine ⟨hg.os.trans hs.keep.os, hg.tape.trans hs.keep.tape, hg.output.trans hs.keep.output, Nat.le_trans hs.keep.size hg.size, fun b hb hk => ?_⟩
    rw [hg.block b (Nat.lt_of_lt_of_le hb hs.keep.size), hs.keep.block b hb hk]
    intro heq
    rcases hs.fresh b (keysL (hown1 b heq.symm)) with h1 | h1
    · exact hk h1
    · omega
  rcases hown.2 with ⟨rfl, rfl⟩ | ⟨g, cap, cur, rfl, _, hgc, hnc, hcm, hcs, htake⟩
  · have hcs' : cs' = [] := List.eq_nil_of_length_eq_zero (by simpa using hown.1)
    exact ⟨[], .inl ⟨rfl, rfl, hcs', rfl⟩, ⟨⟨hblk, hnd.2.1⟩, hkeep, fun k hk => hs.fresh k (keysR hk)⟩⟩
  · have hgl := hloc g rfl
    have hgn : g ∉ keys B := by
      intro hmem
      rcases hgl with h3 | h3
      · exact hbes g hmem h3.symm
      · have : g < w.heap.size := hs.has.lt (keysR hmem)
        omega
    have hcl : cs'.length = n' * sz := hown.1
    have hsplit : cur.toList = cs' ++ cur.toList.drop (n' * sz) := by rw [← htake, List.take_append_drop]
    refine ⟨[(g, .cells (cs' ++ cur.toList.drop (n' * sz)) e (0, 0))], .inr ⟨g, cap, _, rfl, rfl, hcl, by rw [← hsplit]; simpa using hcs, hnc, hcm⟩, ⟨⟨fun b o h => ?_, ?_⟩, hkeep, fun k hk => ?_⟩⟩
    · rcases List.mem_append.1 h with h | h
      · simp only [List.mem_singleton] at h
        cases h
        rw [← hsplit]; simpa [HO.obj'] using hgc
      · exact hblk b o h
    · exact List.nodup_cons.2 ⟨hgn, hnd.2.1⟩
    · rcases List.mem_cons.1 hk with rfl | hk
      · rcases hgl with h3 | h3
        · exact hs.fresh _ (keysL (hown1 _ h3))
        · exact .inr (Nat.le_trans hs.keep.size h3)
      · exact hs.fresh k (keysR hk)

/-- 'append(x, y...)': x is the call's own and stands at the front; y's cells are known. -/
theorem J.append {T e sz bytes d : Nat} {z : List Value} {x y : Operand} {v : Value} {nn m b k cp : Nat} {cs news l : List Value} {e' : TypeId} {zz : Nat × Nat} {Hx : Heap} {F : Hs} [hT : SliceOf P T e sz bytes] [hI : InfoOf P e z sz bytes] {ty : TypeId} {pos : String} {after : Array Edge} {g : Option (Nat × Bool)}
    (i : Nat) (hv : Sl e sz v nn cs Hx) (hx : ev S x = some v) (hy : ev S y = some (slc b k m cp)) (hp : F[i]? = some [(b, .cells l e' zz)]) (hl : news.length = m * sz) (hnews : (l.drop k).take (m * sz) = news) (h1 : ∀ u, u ∈ news → u.oneCell' = true)
    (hsz : (0 < sz) = True) (hzs : z.length = sz) (hb : (nn + m) * bytes ≤ 140737488355328 ∧ nn + m ≤ maxLen) (hn : Nat.blt d c.n = true)
    (h : ∀ v' Hx', Sl e sz v' (nn + m) (cs ++ news) Hx' → J c K ((d, v') :: S) (Hx' :: F)) :
    J c (OW P ⟨some d, .call { callee := .builtin .append, args := #[x, y], argTypes := #[T, T] }, ty, pos, after, g⟩ K Q) S (Hx :: F) :=
  fun a w hf hs => by
    have hi := hI.info
    cases hinf : P.info? e with
    | none => rw [hinf] at hi; cases hi
    | some inf =>
      rw [hinf] at hi
      simp only [Option.map_some, Option.some.injEq, Prod.mk.injEq, Option.map_eq_some_iff] at hi
      obtain ⟨⟨z', hz1, hz2⟩, hs1, hb1⟩ := hi
      have hh := hs.has.1
      have hcell : ∀ j u, news[j]? = some u → w.cell? ((⟨b, k, none⟩ : Addr).add j) = some u := fun j u hj => by
        subst hnews
        have hj' : l[k + j]? = some u := by
          rw [List.getElem?_take] at hj
          split at hj
          · simpa using hj
          · cases hj
        have := cell_of hh (show (b, HO.cells l e' zz) ∈ (Hx :: F).flatten from by
          rw [List.flatten_cons]; exact List.mem_append.2 (.inr (mem_one hp))) hj'
        by_cases h0 : j = 0
        · subst h0; simpa [Addr.add] using this
        · simpa [Addr.add, h0] using this
      rw [List.flatten_cons] at hs
      obtain ⟨v', w', hr, ho, hg', _, hloc⟩ := run_append_own_at (P := P) (w := w) 0 T ty e inf z' sz bytes hT.und hinf hz1 hs1 hb1 (by have := congrArg List.length hz2; simp at this; omega) (of_eq_true hsz) v nn cs
        (hv.owns (Holds.sub hs.has.1 fun q hq => List.mem_append.2 (.inl hq))) ⟨b, k, none⟩ m cp news hl hcell h1 hb.2 hb.1 (Nat.zero_le _)
      show Oper.upon P _ a K Q ((execOp a.eval _).run P w)
      have : (execOp a.eval ⟨some d, .call { callee := .builtin .append, args := #[x, y], argTypes := #[T, T] }, ty, pos, after, g⟩).run P w = .ok (.value v') w' := by
        unfold execOp; simp [resolve, invoke, builtin, hf.ev hx, hf.ev hy, hr]
      rw [this, Oper.upon_value]
      obtain ⟨Hx', q1, q2⟩ := hs.grown hv hg' ho (fun gg hgg => by
        rcases hloc with h2 | h2
        · exact .inl (by rw [← h2]; exact hgg)
        · right; rw [h2] at hgg; cases hgg; exact Nat.le_refl _)
      exact h v' Hx' q1 _ _ (hf.put hn _) (by rw [List.flatten_cons]; exact q2)
end
end Go.Proofs.YE
namespace Go.Proofs.YE
open Go

class PtrT (P : Program) (T : TypeId) (e : outParam TypeId) : Prop where
  und : P.underlying T = some (.pointer e)
class StrT (P : Program) (T : TypeId) : Prop where
  und : P.underlying T = some .string

section
variable {P : Program} {n : Nat} {S : Slots} {H : Hs} {o : Oper}

theorem Gives.min64 {x y : Operand} {ats : Array TypeId} {p q : Int} (ho : o.op = .call { callee := .builtin .min, args := #[x, y], argTypes := ats }) (hx : ev S x = some (i64 p)) (hy : ev S y = some (i64 q)) : Gives P n o (i64 (min p q)) S H := fun a w hf _ => by
  have e : (if q < p then q else p) = min p q := by omega
  unfold execOp; rw [ho]; simp [resolve, invoke, builtin, Builtin.min_, Builtin.min2, hf.ev hx, hf.ev hy, e]
theorem Gives.max64 {x y : Operand} {ats : Array TypeId} {p q : Int} (ho : o.op = .call { callee := .builtin .max, args := #[x, y], argTypes := ats }) (hx : ev S x = some (i64 p)) (hy : ev S y = some (i64 q)) : Gives P n o (i64 (max p q)) S H := fun a w hf _ => by
  have e : (if q > p then q else p) = max p q := by omega
  unfold execOp; rw [ho]; simp [resolve, invoke, builtin, Builtin.max_, Builtin.max2, hf.ev hx, hf.ev hy, e]

/-! Strings -/
theorem Gives.strEq {T U : TypeId} {x y : Operand} {s t : ByteArray} (ho : o.op = .binOp .eql T x y U) (hx : ev S x = some (.string s)) (hy : ev S y = some (.string t)) : Gives P n o (.bool (s.toList == t.toList)) S H := fun a w hf _ => by
  unfold execOp; rw [ho]; simp [hf.ev hx, hf.ev hy, eqGuard, binOp, Op.stringOp]
theorem Gives.strNe {T U : TypeId} {x y : Operand} {s t : ByteArray} (ho : o.op = .binOp .neq T x y U) (hx : ev S x = some (.string s)) (hy : ev S y = some (.string t)) : Gives P n o (.bool (!(s.toList == t.toList))) S H := fun a w hf _ => by
  unfold execOp; rw [ho]; simp [hf.ev hx, hf.ev hy, eqGuard, binOp, Op.stringOp]
theorem Gives.strAdd {T U : TypeId} {x y : Operand} {s t : ByteArray} (ho : o.op = .binOp .add T x y U) (hx : ev S x = some (.string s)) (hy : ev S y = some (.string t)) (hl : s.size + t.size ≤ 9223372036854775807) : Gives P n o (.string (s ++ t)) S H := fun a w hf _ => by
  have h0 : IntKind.i64.max = 9223372036854775807 := by decide
  have hl' : ¬ ((s.size + t.size : Nat) : Int) > IntKind.i64.max := by rw [h0]; omega
  have hr : (Op.stringOp .add s t).run P w = .ok (.string (s ++ t)) w := by
    unfold Op.stringOp
    simp only [hl', if_false]; rfl
  unfold execOp; rw [ho]; simp only [hf.ev hx, hf.ev hy]; simp [eqGuard, binOp, hr]
theorem bound_run {P : Program} {w : World} (q : Int) (m : Nat) (code : BoundsCode) (h : 0 ≤ q ∧ q ≤ m) : (Instr.sliceBound (i64 q) m code).run P w = .ok q.toNat w := by
  simp [Instr.sliceBound, asIntOf, h]
theorem sliceB_run {P : Program} {w : World} (s : Bool) (len cap : Nat) (p q : Int) (hb : 0 ≤ p ∧ p ≤ q ∧ q ≤ cap) : (Instr.sliceBounds s len cap (some (i64 p)) (some (i64 q)) none).run P w = .ok (p.toNat, q.toNat, cap) w := by
  have h1 := fun (code : BoundsCode) => bound_run (P := P) (w := w) q cap code (by omega)
  have h2 := fun (code : BoundsCode) => bound_run (P := P) (w := w) p q.toNat code (by omega)
  simp only [Instr.sliceBounds, Sem.run_bind, Sem.run_pure, Result.andThen_ok, h1, h2]
theorem Gives.strSl {T : TypeId} {x lo hi : Operand} {s : ByteArray} {p q : Int} [h : StrT P T] (ho : o.op = .slice T x (some lo) (some hi) none) (hx : ev S x = some (.string s)) (hl : ev S lo = some (i64 p)) (hh : ev S hi = some (i64 q)) (hb : 0 ≤ p ∧ p ≤ q ∧ q ≤ s.size) :
    Gives P n o (.string (s.extract p.toNat q.toNat)) S H := fun a w hf _ => by
  unfold execOp; rw [ho]; simp [hf.ev hx, hf.ev hl, hf.ev hh, Instr.sliceAt, Instr.slice, und_run h.und, sliceB_run false s.size s.size p q hb]
theorem Gives.strTo {T : TypeId} {x hi : Operand} {s : ByteArray} {q : Int} [h : StrT P T] (ho : o.op = .slice T x none (some hi) none) (hx : ev S x = some (.string s)) (hh : ev S hi = some (i64 q)) (hb : 0 ≤ q ∧ q ≤ s.size) :
    Gives P n o (.string (s.extract 0 q.toNat)) S H := fun a w hf _ => by
  unfold execOp; rw [ho]; simp [hf.ev hx, hf.ev hh, Instr.sliceAt, Instr.slice, und_run h.und, Instr.sliceBounds, Instr.sliceBound, asIntOf, hb]

/-! Nil -/
theorem Gives.ptrEq0 {T U e : TypeId} {x y : Operand} {p : Option Addr} [h : PtrT P T e] (ho : o.op = .binOp .eql T x y U) (hx : ev S x = some (.pointer p)) (hy : ev S y = some (.pointer none)) : Gives P n o (.bool p.isNone) S H := fun a w hf _ => by
  have h1 : P.underlying T = some (.pointer (P.pointee T)) := by rw [h.und]; simp [Program.pointee, h.und]
  have h2 : (binOp .eql T (.pointer p) (.pointer none)).run P w = .ok (.bool p.isNone) w := by
    have e : binOp .eql T (.pointer p) (.pointer none) = (do pure (.bool (← Op.equal T (.pointer p) (.pointer none)))) := by cases p <;> rfl
    rw [e, Sem.run_bind, run_equal_pointer_nil _ T p h1]; rfl
  unfold execOp; rw [ho]; simp only [hf.ev hx, hf.ev hy]
  simp [eqGuard, h2]
theorem Gives.ptrNe0 {T U e : TypeId} {x y : Operand} {p : Option Addr} [h : PtrT P T e] (ho : o.op = .binOp .neq T x y U) (hx : ev S x = some (.pointer p)) (hy : ev S y = some (.pointer none)) : Gives P n o (.bool (!p.isNone)) S H := fun a w hf _ => by
  have h1 : P.underlying T = some (.pointer (P.pointee T)) := by rw [h.und]; simp [Program.pointee, h.und]
  have h2 : (binOp .neq T (.pointer p) (.pointer none)).run P w = .ok (.bool (!p.isNone)) w := by
    have e : binOp .neq T (.pointer p) (.pointer none) = (do pure (.bool (!(← Op.equal T (.pointer p) (.pointer none))))) := by cases p <;> rfl
    rw [e, Sem.run_bind, run_equal_pointer_nil _ T p h1]; rfl
  unfold execOp; rw [ho]; simp only [hf.ev hx, hf.ev hy]
  simp [eqGuard, h2]
theorem Gives.mapEq0 {T U k e : TypeId} {x y : Operand} {p : Option Nat} [h : MapOf P T k e] (ho : o.op = .binOp .eql T x y U) (hx : ev S x = some (.map p)) (hy : ev S y = some (.map none)) : Gives P n o (.bool p.isNone) S H := fun a w hf _ => by
  have h2 : (binOp .eql T (.map p) (.map none)).run P w = .ok (.bool p.isNone) w := by
    have e : binOp .eql T (.map p) (.map none) = (do pure (.bool (← Op.equal T (.map p) (.map none)))) := by cases p <;> rfl
    rw [e, Sem.run_bind, run_equal_map_nil _ T _ _ p h.und]; rfl
  unfold execOp; rw [ho]; simp only [hf.ev hx, hf.ev hy]
  simp [eqGuard, h2]
theorem Gives.slcEq0 {T U e sz by_ : Nat} {x y : Operand} {p : Option Addr} {l c : Nat} [h : SliceOf P T e sz by_] (ho : o.op = .binOp .eql T x y U) (hx : ev S x = some (.slice p l c)) (hy : ev S y = some nils) : Gives P n o (.bool p.isNone) S H := fun a w hf _ => by
  have h2 : (binOp .eql T (.slice p l c) nils).run P w = .ok (.bool p.isNone) w := by
    have e : binOp .eql T (.slice p l c) nils = (do pure (.bool (← Op.equal T (.slice p l c) nils))) := by cases p <;> rfl
    rw [e, Sem.run_bind, run_equal_slice_nil _ T _ p l c h.und]; rfl
  unfold execOp; rw [ho]; simp only [hf.ev hx, hf.ev hy]
  simp [eqGuard, h2]

/-! Parts of slices and arrays -/
theorem Gives.slcFrom {T e sz by_ : Nat} {x lo : Operand} {b k m c : Nat} {p : Int} [h : SliceOf P T e sz by_] (ho : o.op = .slice T x (some lo) none none) (hx : ev S x = some (slc b k m c)) (hl : ev S lo = some (i64 p)) (hb : 0 ≤ p ∧ p ≤ m) (hc : (m : Int) ≤ c) :
    Gives P n o (.slice (some (if c = p.toNat then ⟨b, k, none⟩ else ⟨b, k + p.toNat * sz, none⟩)) (m - p.toNat) (c - p.toNat)) S H := fun a w hf _ => by
  unfold execOp; rw [ho]; simp [hf.ev hx, hf.ev hl, Instr.sliceAt, Instr.slice, und_run h.und, Instr.sliceBounds, Instr.sliceBound, asIntOf, hb, size_run h.size, Addr.add]
  split
  · rfl
  · split
    · rename_i h0; rw [h0]; rfl
    · rfl
theorem Gives.slcTo {T e sz by_ : Nat} {x hi : Operand} {p : Option Addr} {m c : Nat} {q : Int} [h : SliceOf P T e sz by_] (ho : o.op = .slice T x none (some hi) none) (hx : ev S x = some (.slice p m c)) (hl : ev S hi = some (i64 q)) (hb : 0 ≤ q ∧ q ≤ c) :
    Gives P n o (.slice p q.toNat c) S H := fun a w hf _ => by
  unfold execOp; rw [ho]; cases p <;> simp [hf.ev hx, hf.ev hl, Instr.sliceAt, Instr.slice, und_run h.und, Instr.sliceBounds, Instr.sliceBound, asIntOf, hb, size_run h.size, Addr.add]
theorem Gives.arrAll {T m e sz : Nat} {x : Operand} {b k : Nat} [h : ArrOf P T m e sz] (ho : o.op = .slice T x none none none) (hx : ev S x = some (ptr b k)) : Gives P n o (slc b k m m) S H := fun a w hf _ => by
  unfold execOp; rw [ho]; simp [hf.ev hx, Instr.sliceAt, und_run h.und, Instr.sureAddr, Instr.sliceBounds, size_run h.size, Addr.add]
theorem Gives.arrPart {T m e sz : Nat} {x lo hi : Operand} {b k : Nat} {p q : Int} [h : ArrOf P T m e sz] (ho : o.op = .slice T x (some lo) (some hi) none) (hx : ev S x = some (ptr b k)) (hl : ev S lo = some (i64 p)) (hh : ev S hi = some (i64 q)) (hb : 0 ≤ p ∧ p ≤ q ∧ q ≤ m) (hp : p < m) :
    Gives P n o (slc b (k + p.toNat * sz) (q.toNat - p.toNat) (m - p.toNat)) S H := fun a w hf _ => by
  have hne : ¬ m = p.toNat := by omega
  unfold execOp; rw [ho]; simp [hf.ev hx, hf.ev hl, hf.ev hh, Instr.sliceAt, und_run h.und, Instr.sureAddr, sliceB_run false m m p q hb, size_run h.size, Addr.add, hne]

/-! What is built -/
theorem Gives.build {T : TypeId} {ps : Array (Nat × Operand)} {vs : List (Nat × Value)} {cells : Array Value} (ho : o.op = .build T ps) (hv : ps.toList.map (fun p => (ev S p.2).map (fun v => (p.1, v))) = vs.map some)
    (hb : P.built T vs = some cells) : Gives P n o (.agg cells) S H := fun a w hf _ => by
  have e : ps.map (fun p => (p.1, a.eval p.2)) = vs.toArray := by
    apply Array.ext'
    simp only [Array.toList_map]
    have hl : ∀ (l : List (Nat × Operand)) (vs : List (Nat × Value)), l.map (fun p => (ev S p.2).map (fun v => (p.1, v))) = vs.map some → l.map (fun p => (p.1, a.eval p.2)) = vs := by
      intro l
      induction l with
      | nil => intro vs h; cases vs <;> simp_all
      | cons x r ih =>
        intro vs h
        cases vs with
        | nil => simp at h
        | cons v q =>
          simp only [List.map_cons, List.cons.injEq] at h ⊢
          refine ⟨?_, ih q h.2⟩
          obtain ⟨u, h1, h2⟩ := Option.map_eq_some_iff.1 h.1
          rw [hf.ev h1]; exact h2
    exact hl _ _ hv
  unfold execOp; rw [ho]
  have := run_build (P := P) w T vs.toArray cells hb
  simp [e, this]

/-! Bits -/
theorem Gives.shr {T U : TypeId} {x y : Operand} {k j : IntKind} {p q : Int} (ho : o.op = .binOp .shr T x y U) (hx : ev S x = some (.int k p)) (hy : ev S y = some (.int j q)) (hq : 0 ≤ q) : Gives P n o (.int k (p.fdiv (2 ^ (min q.toNat k.bits)))) S H := fun a w hf _ => by
  have : ¬ q < 0 := by omega
  unfold execOp; rw [ho]; simp [hf.ev hx, hf.ev hy, eqGuard, binOp, Op.shift, this]
theorem Gives.shl {T U : TypeId} {x y : Operand} {k j : IntKind} {p q : Int} (ho : o.op = .binOp .shl T x y U) (hx : ev S x = some (.int k p)) (hy : ev S y = some (.int j q)) (hq : 0 ≤ q) : Gives P n o (.int k (k.wrap (p * 2 ^ (min q.toNat k.bits)))) S H := fun a w hf _ => by
  have : ¬ q < 0 := by omega
  unfold execOp; rw [ho]; simp [hf.ev hx, hf.ev hy, eqGuard, binOp, Op.shift, this]
theorem Gives.xor {T U : TypeId} {x y : Operand} {k : IntKind} {p q : Int} (ho : o.op = .binOp .xor T x y U) (hx : ev S x = some (.int k p)) (hy : ev S y = some (.int k q)) : Gives P n o (.int k (k.wrap (BitVec.ofInt k.bits p ^^^ BitVec.ofInt k.bits q).toNat)) S H :=
  binInt_run ho hx hy fun w => by simp [binOp, Op.intBits]
theorem Gives.and {T U : TypeId} {x y : Operand} {k : IntKind} {p q : Int} (ho : o.op = .binOp .and T x y U) (hx : ev S x = some (.int k p)) (hy : ev S y = some (.int k q)) : Gives P n o (.int k (k.wrap (BitVec.ofInt k.bits p &&& BitVec.ofInt k.bits q).toNat)) S H :=
  binInt_run ho hx hy fun w => by simp [binOp, Op.intBits]
end

/-! ### New slices -/
section
variable {P : Program} {Q : Exit → Act → World → Prop} {c : Cx} {S : Slots} {H : Hs} {K : Act → World → Prop} {o : Oper}
theorem madeCells_flat (z : Value) (m : Nat) (h : z.cells = #[z]) : madeCells z.cells m = (List.replicate m z).toArray := by
  unfold madeCells; rw [h]; apply Array.ext'; simp [List.eq_replicate_iff, Nat.mod_one]
theorem J.makeSl {T e sz bytes d : Nat} {z : Value} {x y : Operand} {l q : Int} [hT : SliceOf P T e sz bytes] [hZ : Zero P e z] (ho : o.op = .makeSlice T x y) (hx : ev S x = some (i64 l)) (hy : ev S y = some (i64 q)) (hl : 0 ≤ l ∧ l ≤ q ∧ q * bytes ≤ 281474976710656 ∧ q ≤ 9223372036854775807)
    (hd : o.dst = some d) (hn : Nat.blt d c.n = true)
    (h : ∀ b, J c K ((d, slc b 0 l.toNat q.toNat) :: S) ([(b, .cells (madeCells z.cells (q.toNat * sz)).toList e (0, 0))] :: H)) : J c (OW P o K Q) S H :=
  J.new (f := fun b => slc b 0 l.toNat q.toNat) (ho := .cells (madeCells z.cells (q.toNat * sz)).toList e (0, 0)) (fun a w hf _ => by
    obtain ⟨i, h1, h2⟩ : ∃ i, P.info? e = some i ∧ (i.size = sz ∧ i.bytes = bytes ∧ i.zero = some z) := by
      have a1 := hT.size; have a2 := hT.bytes; have a3 := hZ.zero
      cases hi : P.info? e with
      | none => rw [hi] at a1; cases a1
      | some i => rw [hi] at a1 a2 a3; simp at a1 a2 a3; exact ⟨i, rfl, a1, a2, a3⟩
    have := run_make (P := P) (w := w) T e i z hT.und h1 h2.2.2 .i64 .i64 l q hl.1 hl.2.1 (by rw [h2.2.1, Int.mul_comm]; exact hl.2.2.1) hl.2.2.2
    rw [h2.1] at this
    unfold execOp; rw [ho]; simp [hf.ev hx, hf.ev hy, this, HO.obj']) hd hn h
end
end Go.Proofs.YE
namespace Go.Proofs.YE
open Go

/-- A text's bytes as cells. -/
def bv (s : ByteArray) : List Value := s.data.toList.map fun b => .int .u8 b.toNat
theorem bv_len (s : ByteArray) : (bv s).length = s.size := by unfold bv; rw [List.length_map]; rfl
theorem bv_one (s : ByteArray) : ∀ v, v ∈ bv s → v.oneCell' = true := fun v hv => by
  obtain ⟨b, _, rfl⟩ := List.mem_map.1 hv
  rfl

section
variable {P : Program} {Q : Exit → Act → World → Prop} {c : Cx} {S : Slots} {H : Hs} {K : Act → World → Prop} {o : Oper}

theorem partsEv {a : Act} {n : Nat} (hf : Fr a n S) : ∀ (l : List (Nat × Operand)) (vs : List (Nat × Value)), l.map (fun p => (ev S p.2).map (fun v => (p.1, v))) = vs.map some → l.map (fun p => (p.1, a.eval p.2)) = vs := by
  intro l
  induction l with
  | nil => intro vs h; cases vs <;> simp_all
  | cons x r ih =>
    intro vs h
    cases vs with
    | nil => simp at h
    | cons v q =>
      simp only [List.map_cons, List.cons.injEq] at h ⊢
      refine ⟨?_, ih q h.2⟩
      obtain ⟨u, h1, h2⟩ := Option.map_eq_some_iff.1 h.1
      rw [hf.ev h1]; exact h2

theorem J.buildSl {T e sz bytes d m : Nat} {z : Value} {ps : Array (Nat × Operand)} (vs : List Value) {cs : List Value} [hT : SliceOf P T e sz bytes] [hZ : Zero P e z] (ho : o.op = .buildSlice T m ps)
    (hps : ps.toList.map (fun p => (ev S p.2).map fun v => (p.1, v)) = ((vs.zipIdx 0).map fun x => (x.2, x.1)).map some)
    (hm : vs.length = m) (hpos : Nat.blt 0 (m * sz) = true) (hsm : Nat.ble (m * sz) 16777216 = true) (hsz : ∀ v, v ∈ vs → v.cells.size = sz) (hcs : (vs.flatMap fun v => v.cells.toList) = cs) (hd : o.dst = some d) (hn : Nat.blt d c.n = true)
    (h : ∀ b, J c K ((d, slc b 0 m m) :: S) ([(b, .cells cs e (0, 0))] :: H)) : J c (OW P o K Q) S H :=
  J.new (f := fun b => slc b 0 m m) (ho := .cells cs e (0, 0)) (fun a w hf _ => by
    obtain ⟨i, h1, h2⟩ : ∃ i, P.info? e = some i ∧ (i.size = sz ∧ i.bytes = bytes ∧ i.zero = some z) := by
      have a1 := hT.size; have a2 := hT.bytes; have a3 := hZ.zero
      cases hi : P.info? e with
      | none => rw [hi] at a1; cases a1
      | some i => rw [hi] at a1 a2 a3; simp at a1 a2 a3; exact ⟨i, rfl, a1, a2, a3⟩
    have hpos : 0 < m * sz := by simpa [Nat.blt_eq] using hpos
    have hsm : m * sz ≤ 16777216 := by simpa using hsm
    have hs0 : 0 < sz := Nat.pos_of_ne_zero fun e => by subst e; simp at hpos
    subst hm
    have hfill := Go.Great.fill_whole (s := sz) hs0 vs ((Array.range (vs.length * sz)).map (z.cells[· % z.cells.size]!)) hsz (by simp)
    rw [hcs] at hfill
    have he : (ps.map fun p => (p.1, a.eval p.2)).toList = (vs.zipIdx 0).map fun x => (x.2, x.1) := by
      rw [Array.toList_map]; exact partsEv hf _ _ hps
    have := run_buildSlice (P := P) w T e vs.length (ps.map fun p => (p.1, a.eval p.2)) cs.toArray i z hT.und h1 h2.2.2 (by rw [h2.1]; omega) (by rw [h2.1]; omega) (by rw [h2.1, he]; exact hfill)
    unfold execOp; rw [ho]; simp [this, HO.obj']) hd hn h

/-- 'copy(x, s)' of a text that is as long as x. -/
theorem J.copyS {T U e sz bytes d : Nat} {x y : Operand} {ty : TypeId} {pos : String} {after : Array Edge} {g : Option (Nat × Bool)} {b k m cp : Nat} {l : List Value} {e' : TypeId} {z : Nat × Nat} {s : ByteArray} [hT : SliceOf P T e sz bytes] (i : Nat)
    (hx : ev S x = some (slc b k m cp)) (hy : ev S y = some (.string s)) (hm : s.size = m) (hp : H[i]? = some [(b, .cells l e' z)]) (hl : k + m ≤ l.length) (hz : noFz z k m = true) (hn : Nat.blt d c.n = true)
    (h : J c K ((d, i64 m) :: S) (H.set i [(b, .cells (splice l k (bv s)) e' z)])) : J c (OW P ⟨some d, .call { callee := .builtin .copy, args := #[x, y], argTypes := #[T, U] }, ty, pos, after, g⟩ K Q) S H :=
  J.turn (ho' := .cells (splice l k (bv s)) e' z) hp (fun a w hf hh => by
    have hw := hh b _ (mem_one hp)
    subst hm
    have h1 := storeCells_run (P := P) (k := k) (bv s) 0 w l hw (by rw [bv_len]; omega) (bv_one s) (fun j hj => by
      rw [bv_len] at hj
      simp [noFz] at hz
      omega)
    have he : (bv s).take s.size = bv s := by rw [← bv_len]; exact List.take_length
    rw [Nat.add_zero] at h1
    have hd : s.data.map (fun b => Value.int .u8 b.toNat) = (bv s).toArray := by unfold bv; apply Array.ext'; rw [Array.toList_map]
    unfold execOp
    simp [resolve, invoke, builtin, Builtin.copy_, hf.ev hx, hf.ev hy, und_run hT.und, Builtin.lenOf, Builtin.firstCells, size_run hT.size, he, hd, h1, HO.obj', goInt]) rfl hn h
end
end Go.Proofs.YE
namespace Go.Proofs.YE
open Go

section
variable {P : Program} {ops : Array Oper} {Q : Exit → Act → World → Prop}

/-- Whatever order is picked; S may hang on what has come. -/
def wpO (P : Program) (ops : Array Oper) (Q : Exit → Act → World → Prop) (S : Array Bool → World → Prop) : Nat → Array Bool → Act → World → Prop
  | 0, l, a, w => Region.ready .any ops l = [] ∧ Q .normal a w
  | m + 1, l, a, w => (Region.ready .any ops l = [] → Q .normal a w) ∧
      ∀ i ∈ Region.ready .any ops l, wpOp P ops Q i (fun a' w' => S (l.setIfInBounds i true) w' ∧ wpO P ops Q S m (l.setIfInBounds i true) a' w') a w

theorem wpO_any {S : Array Bool → World → Prop} : ∀ (m : Nat) (l : Array Bool) (a : Act) (w : World), wpO P ops Q S m l a w → wpAny P .any ops Q m l a w := by
  intro m
  induction m with
  | zero => exact fun l a w h => h
  | succ m ih => exact fun l a w h => ⟨h.1, fun i hi => wpOp_mono (fun a' w' h' => ih _ a' w' h'.2) (h.2 i hi)⟩

/-- Those that wait for i, one way or another (and i). -/
def late (ops : Array Oper) (L : List Nat) (i : Nat) : Bool :=
  L.contains i && L.all fun j => j == i || ((ops[j]?).map fun o => o.after.any fun e => Region.binds .any e && L.contains e.on).getD false
def none_of (l : Array Bool) (L : List Nat) : Bool := L.all fun j => !l.getD j true

theorem getD_set (l : Array Bool) (i j : Nat) (h : j ≠ i) : (l.setIfInBounds j true).getD i true = l.getD i true := by
  simp only [Array.getD_eq_getD_getElem?, Array.getElem?_setIfInBounds_ne h]

theorem wpO_first {S : Array Bool → World → Prop} {T : World → Prop} {i : Nat} {L : List Nat} {oi : Oper} {v : Value} (hi : ops[i]? = some oi) (hsel : ∀ (j : Nat) (o : Oper) cs b, ops[j]? = some o → o.op ≠ .select cs b)
    (hQ : ∀ c a w, Q (.panic c) (a.put oi.dst v) w → Q (.panic c) a w) (hL : late ops L i = true)
    (hST : ∀ l w, (∀ j, j ∈ L → l.getD j true = false) → S l w → T w)
    (hS : ∀ l w, S (l.setIfInBounds i true) w ↔ S l w) :
    ∀ (m : Nat) (l : Array Bool) (a : Act) (w : World),
      (∀ j oj, ops[j]? = some oj → j ≠ i → l.getD j true = false → (∀ e ∈ oj.after, Region.binds .any e = true → e.on ≠ i) → oi.apart ops oj = true) →
      i ∈ Region.ready .any ops l → (∀ j, j ∈ L → l.getD j true = false) → YieldsIf P ops T oi v a → S l w →
      wpO P ops Q S m (l.setIfInBounds i true) (a.put oi.dst v) w → wpO P ops Q S (m + 1) l a w := by
  intro m
  induction m with
  | zero =>
    intro l a w _ hr hl hy hw H
    refine ⟨fun h => (by rw [h] at hr; cases hr), fun j hj => ?_⟩
    by_cases e : j = i
    · rw [e]; exact hy.wpOp hi (hST l w hl hw) ⟨(hS l w).2 hw, H⟩
    · have := ready_mono hj e
      rw [H.1] at this; cases this
  | succ m ih =>
    intro l a w hfree hr hl hy hw H
    refine ⟨fun h => (by rw [h] at hr; cases hr), fun j hj => ?_⟩
    by_cases e : j = i
    · rw [e]; exact hy.wpOp hi (hST l w hl hw) ⟨(hS l w).2 hw, H⟩
    · obtain ⟨hju, oj, hoj, hall⟩ := mem_ready.1 hj
      have clash : ∀ x ∈ oj.after, Region.binds .any x = true → l.getD x.on true = false → False := fun x hx hb h3 => by
        have h2 := hall x hx hb
        rw [Array.getD_eq_getD_getElem?] at h2 h3
        cases hg : l[x.on]? with
        | none => rw [hg] at h3; simp at h3
        | some t => rw [hg] at h2 h3; simp at h2 h3; rw [h3] at h2; cases h2
      -- j is none of those that wait for i
      have hjL : j ∉ L := fun hm => by
        simp only [late, Bool.and_eq_true, List.all_eq_true] at hL
        have h1 := hL.2 j hm
        rw [hoj] at h1
        simp only [Option.map_some, Option.getD_some, Bool.or_eq_true, beq_iff_eq, e, false_or, Array.any_eq_true', Bool.and_eq_true, List.contains_iff_mem] at h1
        obtain ⟨x, hx, hb, hin⟩ := h1
        exact clash x hx hb (hl _ hin)
      have hno : ∀ x ∈ oj.after, Region.binds .any x = true → x.on ≠ i := fun x hx hb heq => clash x hx hb (by rw [heq]; exact (mem_ready.1 hr).1)
      have h1 := H.2 j (ready_mono hj e)
      have h2 := wpOp_putIf hoj (hfree j oj hoj e hju hno) (fun cs b => hsel i oi cs b hi) (fun cs b => hsel j oj cs b hoj) hQ hy h1
      refine wpOp_mono (fun a' w' h3 => ?_) h2
      obtain ⟨h4, h5, h6⟩ := h3
      have hlj : ∀ k, k ∈ L → (l.setIfInBounds j true).getD k true = false := fun k hk => by
        have : j ≠ k := fun e => hjL (e ▸ hk)
        rw [getD_set _ _ _ this]; exact hl k hk
      rw [Array.setIfInBounds_comm _ _ (Ne.symm e), hS] at h5
      refine ⟨h5, ih _ a' w' ?_ (ready_mono hr (Ne.symm e)) hlj h4 h5 ?_⟩
      · intro k ok hk hki hun hno'
        refine hfree k ok hk hki ?_ hno'
        by_cases hjk : j = k
        · rw [← hjk]; exact hju
        · rw [getD_set _ _ _ hjk] at hun; exact hun
      · rw [Array.setIfInBounds_comm _ _ e]; exact h6

/-- What holds until operation k has come. -/
def til (T : Heap) (k : Nat) (l : Array Bool) (w : World) : Prop := l.getD k true = false → Holds T w
def AK (P : Program) (ops : Array Oper) (Q : Exit → Act → World → Prop) (T : Heap) (k : Nat) (m : Nat) (l : Array Bool) : Act → World → Prop := wpO P ops Q (til T k) m l
def HK (T : Heap) (k : Nat) (l : Array Bool) (X : Act → World → Prop) : Act → World → Prop := fun a w => til T k l w ∧ X a w

variable {c : Cx} {S : Slots} {H : Hs}
theorem J.anyK (hm : P.follows .mixedOrders = true) (T : Hs) (k : Nat) {id : Nat} (h : J c (AK P ops Q T.flatten k ops.size (Array.replicate ops.size false)) S H) :
    J c (CW P (Code.region id ops true) Q) S H :=
  fun a w hf hs => wp_region_any hm (wpO_any _ _ _ _ (h a _ hf hs.drew))

/-- T holds, or is asked no more. -/
inductive Cur (T H : Hs) (k : Nat) (l : Array Bool) : Prop where
  | sub (h : Sub T H)
  | past (h : l.getD k true = true)
theorem Cur.til {T : Hs} {k : Nat} {l : Array Bool} (h : Cur T H k l) {w0 w : World} {K0 : List Nat} (hs : St w0 K0 w H.flatten) : til T.flatten k l w := fun hk => by
  cases h with
  | sub h => exact h.holds hs
  | past h => rw [h] at hk; cases hk
theorem til_set {T : Heap} {k i : Nat} (hik : Nat.beq k i = false) (l : Array Bool) (w : World) : til T k (l.setIfInBounds i true) w ↔ til T k l w := by
  unfold til
  rw [getD_set _ _ _ (fun e => by subst e; simp at hik)]

theorem none_of_spec {l : Array Bool} {L : List Nat} (h : none_of l L = true) : ∀ j, j ∈ L → l.getD j true = false := fun j hj => by
  simp only [none_of, List.all_eq_true] at h
  simpa using h j hj

/-- A reader first: it looks at T; k waits for it. -/
theorem J.takeK {T : Hs} {k : Nat} (i : Nat) (L : List Nat) {oi : Oper} {m : Nat} {l : Array Bool} (hi : ops[i]? = some oi) (hs : canTake ops l i = true) (hL : (late ops L i && none_of l L && L.contains k && !Nat.beq k i) = true)
    (hQ : ∀ ch a w (d : Nat) v, Q (.panic ch) (a.put (some d) v) w → Q (.panic ch) a w) (hg : oi.guard = none) (hT : Sub T H)
    (h : J c (OT P T.flatten oi (AK P ops Q T.flatten k m (l.setIfInBounds i true))) S H) :
    J c (AK P ops Q T.flatten k (m + 1) l) S H :=
  fun a w hfr hst => by
    simp only [canTake, Bool.and_eq_true] at hs
    simp only [Bool.and_eq_true, Bool.not_eq_true', List.contains_iff_mem] at hL
    obtain ⟨⟨⟨h1, h2⟩, h3⟩, h4⟩ := hL
    obtain ⟨v, d, hd, hv, hk⟩ := h a w hfr hst
    have hl := none_of_spec h2
    exact wpO_first (T := Holds T.flatten) hi (Region.noSelect_spec hs.1.1) (fun ch a w hq => hQ ch a w d v (by rw [← hd]; exact hq)) h1 (fun l w hll ht => ht (hll k h3)) (til_set h4) m l a w
      (Region.free_spec hi hs.1.2) (by simpa using hs.2) hl (.inl ⟨by simp [Region.wanted, hg], hv⟩) (fun _ => hT.holds hst) (by rw [hd]; exact hk)
theorem J.takeKW {T : Hs} {k : Nat} (i : Nat) (L : List Nat) {oi : Oper} {m j dj : Nat} {t : Bool} {l : Array Bool} (hi : ops[i]? = some oi) (hs : canTake ops l i = true) (hL : (late ops L i && none_of l L && L.contains k && !Nat.beq k i) = true)
    (hQ : ∀ ch a w (d : Nat) v, Q (.panic ch) (a.put (some d) v) w → Q (.panic ch) a w) (hg : oi.guard = some (j, t)) (hdj : (ops[j]?).bind (·.dst) = some dj) (hsj : S.get dj = some (.bool t)) (hT : Sub T H)
    (h : J c (OT P T.flatten oi (AK P ops Q T.flatten k m (l.setIfInBounds i true))) S H) :
    J c (AK P ops Q T.flatten k (m + 1) l) S H :=
  fun a w hfr hst => by
    simp only [canTake, Bool.and_eq_true] at hs
    simp only [Bool.and_eq_true, Bool.not_eq_true', List.contains_iff_mem] at hL
    obtain ⟨⟨⟨h1, h2⟩, h3⟩, h4⟩ := hL
    obtain ⟨v, d, hd, hv, hk⟩ := h a w hfr hst
    have hl := none_of_spec h2
    exact wpO_first (T := Holds T.flatten) hi (Region.noSelect_spec hs.1.1) (fun ch a w hq => hQ ch a w d v (by rw [← hd]; exact hq)) h1 (fun l w hll ht => ht (hll k h3)) (til_set h4) m l a w
      (Region.free_spec hi hs.1.2) (by simpa using hs.2) hl (.inl ⟨by simp [Region.wanted, hg, yielded_of hfr hdj hsj], hv⟩) (fun _ => hT.holds hst) (by rw [hd]; exact hk)

theorem late_one (i : Nat) : late ops [i] i = true := by simp [late]
/-- One that looks at no block. -/
theorem J.takeF {T : Hs} {k : Nat} (i : Nat) {oi : Oper} {m : Nat} {l : Array Bool} (hi : ops[i]? = some oi) (hs : canTake ops l i = true) (hL : (none_of l [i] && !Nat.beq k i) = true)
    (hQ : ∀ ch a w (d : Nat) v, Q (.panic ch) (a.put (some d) v) w → Q (.panic ch) a w) (hg : oi.guard = none) (hT : Cur T H k l)
    (h : J c (OT P ([] : Hs).flatten oi (AK P ops Q T.flatten k m (l.setIfInBounds i true))) S H) :
    J c (AK P ops Q T.flatten k (m + 1) l) S H :=
  fun a w hfr hst => by
    simp only [canTake, Bool.and_eq_true] at hs
    simp only [Bool.and_eq_true, Bool.not_eq_true'] at hL
    obtain ⟨h2, h4⟩ := hL
    obtain ⟨v, d, hd, hv, hk⟩ := h a w hfr hst
    exact wpO_first (T := fun _ => True) hi (Region.noSelect_spec hs.1.1) (fun ch a w hq => hQ ch a w d v (by rw [← hd]; exact hq)) (late_one i) (fun l w hll ht => trivial) (til_set h4) m l a w
      (Region.free_spec hi hs.1.2) (by simpa using hs.2) (none_of_spec h2) (.inl ⟨by simp [Region.wanted, hg], fun w' _ => hv w' (fun b o hm => by cases hm)⟩) (hT.til hst) (by rw [hd]; exact hk)
theorem J.takeFW {T : Hs} {k : Nat} (i : Nat) {oi : Oper} {m j dj : Nat} {t : Bool} {l : Array Bool} (hi : ops[i]? = some oi) (hs : canTake ops l i = true) (hL : (none_of l [i] && !Nat.beq k i) = true)
    (hQ : ∀ ch a w (d : Nat) v, Q (.panic ch) (a.put (some d) v) w → Q (.panic ch) a w) (hg : oi.guard = some (j, t)) (hdj : (ops[j]?).bind (·.dst) = some dj) (hsj : S.get dj = some (.bool t)) (hT : Cur T H k l)
    (h : J c (OT P ([] : Hs).flatten oi (AK P ops Q T.flatten k m (l.setIfInBounds i true))) S H) :
    J c (AK P ops Q T.flatten k (m + 1) l) S H :=
  fun a w hfr hst => by
    simp only [canTake, Bool.and_eq_true] at hs
    simp only [Bool.and_eq_true, Bool.not_eq_true'] at hL
    obtain ⟨h2, h4⟩ := hL
    obtain ⟨v, d, hd, hv, hk⟩ := h a w hfr hst
    exact wpO_first (T := fun _ => True) hi (Region.noSelect_spec hs.1.1) (fun ch a w hq => hQ ch a w d v (by rw [← hd]; exact hq)) (late_one i) (fun l w hll ht => trivial) (til_set h4) m l a w
      (Region.free_spec hi hs.1.2) (by simpa using hs.2) (none_of_spec h2) (.inl ⟨by simp [Region.wanted, hg, yielded_of hfr hdj hsj], fun w' _ => hv w' (fun b o hm => by cases hm)⟩) (hT.til hst) (by rw [hd]; exact hk)
/-- One that its guard passes over. -/
theorem J.takeFN {T : Hs} {k : Nat} (i : Nat) {oi : Oper} {d m j dj : Nat} {t u : Bool} {l : Array Bool} (hi : ops[i]? = some oi) (hd : oi.dst = some d) (hn : Nat.blt d c.n = true) (hs : canTake ops l i = true) (hL : (none_of l [i] && !Nat.beq k i) = true)
    (hQ : ∀ ch a w (d : Nat) v, Q (.panic ch) (a.put (some d) v) w → Q (.panic ch) a w) (hg : oi.guard = some (j, t)) (hdj : (ops[j]?).bind (·.dst) = some dj) (hsj : S.get dj = some (.bool u)) (hne : (u == t) = false) (hT : Cur T H k l)
    (h : J c (AK P ops Q T.flatten k m (l.setIfInBounds i true)) ((d, undef) :: S) H) :
    J c (AK P ops Q T.flatten k (m + 1) l) S H :=
  fun a w hfr hst => by
    simp only [canTake, Bool.and_eq_true] at hs
    simp only [Bool.and_eq_true, Bool.not_eq_true'] at hL
    obtain ⟨h2, h4⟩ := hL
    exact wpO_first (T := fun _ => True) hi (Region.noSelect_spec hs.1.1) (fun ch a w hq => hQ ch a w d undef (by rw [← hd]; exact hq)) (late_one i) (fun l w hll ht => trivial) (til_set h4) m l a w
      (Region.free_spec hi hs.1.2) (by simpa using hs.2) (none_of_spec h2) (.inr ⟨by simp only [Region.wanted, hg, yielded_of hfr hdj hsj]; simpa using hne, rfl⟩) (hT.til hst) (by rw [hd]; exact h _ w (hfr.put hn undef) hst)
theorem J.takeFU {T : Hs} {k : Nat} (i : Nat) {oi : Oper} {d m j dj : Nat} {t : Bool} {l : Array Bool} (hi : ops[i]? = some oi) (hd : oi.dst = some d) (hn : Nat.blt d c.n = true) (hs : canTake ops l i = true) (hL : (none_of l [i] && !Nat.beq k i) = true)
    (hQ : ∀ ch a w (d : Nat) v, Q (.panic ch) (a.put (some d) v) w → Q (.panic ch) a w) (hg : oi.guard = some (j, t)) (hdj : (ops[j]?).bind (·.dst) = some dj) (hsj : S.get dj = some undef) (hT : Cur T H k l)
    (h : J c (AK P ops Q T.flatten k m (l.setIfInBounds i true)) ((d, undef) :: S) H) :
    J c (AK P ops Q T.flatten k (m + 1) l) S H :=
  fun a w hfr hst => by
    simp only [canTake, Bool.and_eq_true] at hs
    simp only [Bool.and_eq_true, Bool.not_eq_true'] at hL
    obtain ⟨h2, h4⟩ := hL
    exact wpO_first (T := fun _ => True) hi (Region.noSelect_spec hs.1.1) (fun ch a w hq => hQ ch a w d undef (by rw [← hd]; exact hq)) (late_one i) (fun l w hll ht => trivial) (til_set h4) m l a w
      (Region.free_spec hi hs.1.2) (by simpa using hs.2) (none_of_spec h2) (.inr ⟨by simp [Region.wanted, hg, yielded_undef hfr hdj hsj], rfl⟩) (hT.til hst) (by rw [hd]; exact h _ w (hfr.put hn undef) hst)

/-- Whichever of those that may come comes. -/
theorem J.eachK {T : Hs} {k : Nat} (rs : List Nat) {m : Nat} {l : Array Bool} (hr : Region.ready .any ops l = rs) (hne : rs.isEmpty = false)
    (h : ∀ i, i ∈ rs → J c (Go.wpOp P ops Q i (HK T.flatten k (l.setIfInBounds i true) (AK P ops Q T.flatten k m (l.setIfInBounds i true)))) S H) :
    J c (AK P ops Q T.flatten k (m + 1) l) S H :=
  fun a w hf hs => by
    refine ⟨fun h0 => ?_, fun i hi => h i (hr ▸ hi) a w hf hs⟩
    rw [hr] at h0
    rw [h0] at hne
    cases hne
theorem J.oneK {T : Hs} {k : Nat} (i : Nat) {oi : Oper} {m : Nat} {l : Array Bool} (hr : Region.ready .any ops l = [i]) (hi : ops[i]? = some oi) (hg : oi.guard = none)
    (h : J c (OW P oi (HK T.flatten k (l.setIfInBounds i true) (AK P ops Q T.flatten k m (l.setIfInBounds i true))) Q) S H) :
    J c (AK P ops Q T.flatten k (m + 1) l) S H :=
  J.eachK [i] hr rfl fun j hj => by
    obtain rfl : j = i := by simpa using hj
    exact J.wpOp hi hg h
theorem J.oneKW {T : Hs} {k : Nat} (i : Nat) {oi : Oper} {m j dj : Nat} {t : Bool} {l : Array Bool} (hr : Region.ready .any ops l = [i]) (hi : ops[i]? = some oi) (hg : oi.guard = some (j, t)) (hdj : (ops[j]?).bind (·.dst) = some dj) (hsj : S.get dj = some (.bool t))
    (h : J c (OW P oi (HK T.flatten k (l.setIfInBounds i true) (AK P ops Q T.flatten k m (l.setIfInBounds i true))) Q) S H) :
    J c (AK P ops Q T.flatten k (m + 1) l) S H :=
  J.eachK [i] hr rfl fun q hq => by
    obtain rfl : q = i := by simpa using hq
    intro a w hf hs
    show Go.wpOp P ops Q _ _ a w
    unfold Go.wpOp
    rw [hi]
    simp only [Region.wanted, hg, yielded_of hf hdj hsj, beq_self_eq_true, if_true]
    exact .inl (h a w hf hs)
theorem J.heldK {T : Hs} {k : Nat} {l : Array Bool} {X : Act → World → Prop} (hT : Sub T H) (h : J c X S H) : J c (HK T.flatten k l X) S H :=
  fun a w hf hs => ⟨fun _ => hT.holds hs, h a w hf hs⟩
theorem J.pastK {T : Heap} {k : Nat} {l : Array Bool} {X : Act → World → Prop} (hk : l.getD k true = true) (h : J c X S H) : J c (HK T k l X) S H :=
  fun a w hf hs => ⟨fun h' => (by rw [hk] at h'; cases h'), h a w hf hs⟩
theorem J.allK {T : Hs} {k m : Nat} {l : Array Bool} (hr : Region.ready .any ops l = []) (h : J c (XW Q .normal) S H) :
    J c (AK P ops Q T.flatten k m l) S H :=
  fun a w hf hs => by
    cases m with
    | zero => exact ⟨hr, h a w hf hs⟩
    | succ m =>
      refine ⟨fun _ => h a w hf hs, fun i hi => ?_⟩
      rw [hr] at hi
      cases hi
end
end Go.Proofs.YE
namespace Go.Proofs.YE
open Go

class Byt (P : Program) (T : TypeId) (e : outParam TypeId) : Prop where
  und : P.underlying T = some (.slice e)
  elem : P.underlying e = some (.int .u8)

section
variable {P : Program} {Q : Exit → Act → World → Prop} {c : Cx} {S : Slots} {H : Hs} {K : Act → World → Prop} {o : Oper} {n : Nat}

/-- 'string(b)'. -/
theorem Gives.bytesStr {T U e : TypeId} {x : Operand} {b k m cp : Nat} {l : List Value} {e' : TypeId} {z : Nat × Nat} {s : ByteArray} [hT : Byt P T e] [hU : StrT P U] (i : Nat) (ho : o.op = .convert T U x) (hx : ev S x = some (slc b k m cp))
    (hp : H[i]? = some [(b, .cells l e' z)]) (hm : s.size = m) (hl : (l.drop k).take m = bv s) : Gives P n o (.string s) S H := fun a w hf hh => by
  subst hm
  have hc : ∀ j (hj : j < s.data.toList.length), w.cell? ((⟨b, k, none⟩ : Addr).add j) = some (.int .u8 (s.data.toList[j].toNat : Int)) := fun j hj => by
    have hb : (bv s)[j]? = some (.int .u8 (s.data.toList[j].toNat : Int)) := by unfold bv; rw [List.getElem?_map, List.getElem?_eq_getElem hj]; rfl
    rw [← hl, List.getElem?_take] at hb
    split at hb
    · rw [List.getElem?_drop] at hb
      have := cell_of hh (mem_one hp) hb
      by_cases h0 : j = 0
      · subst h0; simpa [Addr.add] using this
      · simpa [Addr.add, h0] using this
    · cases hb
  have h1 := run_convert_bytes_back (P := P) w T U e ⟨b, k, none⟩ cp s.data.toList hT.und hT.elem hU.und hc
  have h2 : s.data.toList.length = s.size := rfl
  rw [h2] at h1
  have h3 : (⟨s.data.toList.toArray⟩ : ByteArray) = s := rfl
  rw [h3] at h1
  unfold execOp; rw [ho]; simp only [hf.ev hx]; simp [h1]

/-- '[]byte(s)'. -/
theorem J.strBytes {T U e : TypeId} {x : Operand} {d : Nat} {s : ByteArray} [hT : StrT P T] [hU : Byt P U e] (ho : o.op = .convert T U x) (hx : ev S x = some (.string s)) (hd : o.dst = some d) (hn : Nat.blt d c.n = true)
    (h : ∀ b cap rest, J c K ((d, slc b 0 s.size cap) :: S) ([(b, .cells (bv s ++ rest) e ((bv s ++ rest).length, (bv s ++ rest).length + 1))] :: H)) : J c (OW P o K Q) S H :=
  fun a w hf hs => by
    show o.upon P a K Q ((execOp a.eval o).run P w)
    have h1 := run_bytes_of_string (P := P) w T U e s hT.und hU.und hU.elem
    have hrow : ∀ q, bytesRow s q = (bv s ++ List.replicate (q - s.size) (Value.int .u8 0)).toArray := fun q => by
      unfold bytesRow bv; apply Array.ext'; simp
    have hex : (execOp a.eval o).run P w = .ok (.value (slc w.heap.size 0 s.size (grownCap w s.size 0 e))) (w.drew.alloc (.cells (bytesRow s (grownCap w s.size 0 e)) e ((bytesRow s (grownCap w s.size 0 e)).size, (bytesRow s (grownCap w s.size 0 e)).size + 1))) := by
      unfold execOp; rw [ho]; simp only [hf.ev hx]; simp only [Sem.run_bind, h1, Result.andThen_ok, Sem.run_pure]
    rw [hex, Oper.upon_value, hd]
    have h2 := hs.drew.alloc (.cells (bv s ++ List.replicate (grownCap w s.size 0 e - s.size) (Value.int .u8 0)) e ((bv s ++ List.replicate (grownCap w s.size 0 e - s.size) (Value.int .u8 0)).length, (bv s ++ List.replicate (grownCap w s.size 0 e - s.size) (Value.int .u8 0)).length + 1))
    refine h w.heap.size (grownCap w s.size 0 e) (List.replicate (grownCap w s.size 0 e - s.size) (Value.int .u8 0)) _ _ (hf.put hn _) ?_
    rw [hrow]
    simpa [HO.obj'] using h2

def evs (S : Slots) : List Operand → Option (List Value)
  | [] => some []
  | x :: r => match ev S x with
    | some v => match evs S r with
      | some l => some (v :: l)
      | none => none
    | none => none
theorem evs_map : ∀ (xs : List Operand) (vs : List Value), evs S xs = some vs → xs.map (ev S) = vs.map some := by
  intro xs
  induction xs with
  | nil => intro vs h; simp [evs] at h; subst h; rfl
  | cons x r ih =>
    intro vs h
    simp only [evs] at h
    cases hx : ev S x with
    | none => rw [hx] at h; cases h
    | some v =>
      rw [hx] at h
      cases hr : evs S r with
      | none => rw [hr] at h; cases h
      | some l => rw [hr] at h; simp at h; subst h; simp [hx, ih l hr]
/-- A call of a function value: what it captured stands behind the arguments. -/
theorem J.callV {f : FuncId} {fn : Func} {t : Nat} {first captured : Array Value} {xs : Array Operand} {ats : Array TypeId} {ty : TypeId} {pos : String} {after : Array Edge} {g : Option (Nat × Bool)} {dst : Option Nat}
    {args : List Value} {all : Array Value} {H1 F : Hs} {Post : Value → Hs → Prop} (spec : Sp P f all H1 Post) (ht : S.get t = some (.func (.func f) first captured)) (hargs : evs S xs.toList = some args) (hall : first ++ args.toArray ++ captured = all)
    (hf : P.funcs[f]? = some fn) (hb : fn.body.isNone = false) (hn : (fn.name == "runtime.NumGoroutine") = false)
    (h : ∀ v H', Post v H' → J c (PW K dst v) S (H' ++ F)) :
    J c (OW P ⟨dst, .call { callee := .value (.tmp t), args := xs, argTypes := ats }, ty, pos, after, g⟩ K Q) S (H1 ++ F) :=
  fun a w hfr hs => by
    show Oper.upon P _ a K Q ((execOp a.eval _).run P w)
    have he : a.eval (.tmp t) = .func (.func f) first captured := hfr.ev (x := .tmp t) ht
    have hx : xs.map a.eval = args.toArray := by rw [← mapEv hfr _ _ (evs_map _ _ hargs)]; apply Array.ext'; simp
    have hr : (execOp a.eval ⟨dst, .call { callee := .value (.tmp t), args := xs, argTypes := ats }, ty, pos, after, g⟩).run P w = .ok (.enter f all) w := by
      have hc := callFunc_run (args := all) (w := w) hf hb hn
      unfold execOp
      simp only [resolve, he, Deferred.ofValue, hx, Sem.run_bind, Sem.run_pure, Result.andThen_ok, invoke, hall]
      exact hc
    rw [hr]
    simp only [Oper.upon]
    rw [List.flatten_append] at hs
    refine (spec w (hs.has.sub (List.sublist_append_left _ _))).mono ?_
    rintro e w' ⟨v, H', rfl, hp, hst⟩
    exact h v H' hp a w' hfr (by rw [List.flatten_append]; exact hs.call hst)

theorem Gives.makeFn {fn : Fn} {xs ys : Array Operand} {us vs : List Value} (ho : o.op = .makeFunc fn xs ys) (hx : evs S xs.toList = some us) (hy : evs S ys.toList = some vs) : Gives P n o (.func fn us.toArray vs.toArray) S H :=
  Gives.makeFunc ho (evs_map _ _ hx) (evs_map _ _ hy)
theorem Gives.notI {T : TypeId} {x : Operand} {k : IntKind} {p : Int} (ho : o.op = .unOp .xor T x) (hx : ev S x = some (.int k p)) : Gives P n o (.int k (k.wrap (BitVec.ofInt k.bits (if k.signed then -1 else k.max) ^^^ BitVec.ofInt k.bits p).toNat)) S H := fun a w hf _ => by
  unfold execOp; rw [ho]; simp only [hf.ev hx]; simp [Op.unary, Op.intBits]

/-- A return whose result is read in the blocks that are then forgotten, but the first k pieces. -/
theorem J.done_first (k : Nat) {fn : Func} {Post : Value → Hs → Prop} {v : Value} {H' : Hs} (hr : ∀ a w, Fr a c.n S → St c.w0 c.K0 w H.flatten → (results fn a.tmps).run P w = .ok v w) (hH : H.take k = H')
    (hp : Post v H') : J c (XW (bodyPost P fn (Ret c.w0 c.K0 Post)) .ret) S H :=
  fun a w hf hs => ⟨hf.defers, v, hr a w hf hs, v, H', rfl, hp, hs.sub (by
    rw [← hH]
    conv => rhs; rw [← List.take_append_drop k H, List.flatten_append]
    exact List.sublist_append_left _ _)⟩
/-! Results in a variable -/
theorem resA {fn : Func} {t T m b : Nat} {l r : List Value} {e : TypeId} {z : Nat × Nat} [h : Agg P T m] (i : Nat) (hr : fn.results = #[.cell t T]) (hs : S.get t = some (ptr b 0)) (hp : H[i]? = some [(b, .cells l e z)]) (hl : Nat.ble (0 + m) l.length = true) (hv : (l.drop 0).take m = r) :
    ∀ a w, Fr a c.n S → St c.w0 c.K0 w H.flatten → (results fn a.tmps).run P w = .ok (.agg r.toArray) w := fun a w hf hst => by
  subst hv
  have h1 := hf.get t _ hs
  simp only [Array.getD_eq_getD_getElem?] at h1
  have hc := loadCells_run (P := P) hst.has.1 (mem_one hp) (k := 0) (m := m) (by simpa using hl)
  unfold results; simp [hr, h1, asAddr, loadVar, isAgg_agg, size_run h.size, hc]
end
end Go.Proofs.YE
namespace Go.Proofs.YE
open Go

section
variable {P : Program} {ops : Array Oper} {Q : Exit → Act → World → Prop}
/-- T2 holds; T holds until operation k has come. -/
def tilP (T2 T : Heap) (k : Nat) (l : Array Bool) (w : World) : Prop := Holds T2 w ∧ (l.getD k true = false → Holds T w)
def AP (P : Program) (ops : Array Oper) (Q : Exit → Act → World → Prop) (T2 T : Heap) (k : Nat) (m : Nat) (l : Array Bool) : Act → World → Prop := wpO P ops Q (tilP T2 T k) m l
def HP (T2 T : Heap) (k : Nat) (l : Array Bool) (X : Act → World → Prop) : Act → World → Prop := fun a w => tilP T2 T k l w ∧ X a w

variable {c : Cx} {S : Slots} {H : Hs}
theorem J.anyP (hm : P.follows .mixedOrders = true) (T2 T : Hs) (k : Nat) {id : Nat} (h : J c (AP P ops Q T2.flatten T.flatten k ops.size (Array.replicate ops.size false)) S H) :
    J c (CW P (Code.region id ops true) Q) S H :=
  fun a w hf hs => wp_region_any hm (wpO_any _ _ _ _ (h a _ hf hs.drew))

/-- T2 holds; T holds, or is asked no more. -/
inductive CurP (T2 T H : Hs) (k : Nat) (l : Array Bool) : Prop where
  | sub (h2 : Sub T2 H) (h : Sub T H)
  | past (h2 : Sub T2 H) (h : l.getD k true = true)
theorem CurP.til {T2 T : Hs} {k : Nat} {l : Array Bool} (h : CurP T2 T H k l) {w0 w : World} {K0 : List Nat} (hs : St w0 K0 w H.flatten) : tilP T2.flatten T.flatten k l w := by
  cases h with
  | sub h2 h => exact ⟨h2.holds hs, fun _ => h.holds hs⟩
  | past h2 h => exact ⟨h2.holds hs, fun hk => by rw [h] at hk; cases hk⟩
theorem til_setP {T2 T : Heap} {k i : Nat} (hik : Nat.beq k i = false) (l : Array Bool) (w : World) : tilP T2 T k (l.setIfInBounds i true) w ↔ tilP T2 T k l w := by
  unfold tilP
  rw [getD_set _ _ _ (fun e => by subst e; simp at hik)]

/-- A reader first: it looks at T; k waits for it. -/
theorem J.takeP {T2 T : Hs} {k : Nat} (i : Nat) (L : List Nat) {oi : Oper} {m : Nat} {l : Array Bool} (hi : ops[i]? = some oi) (hs : canTake ops l i = true) (hL : (late ops L i && none_of l L && L.contains k && !Nat.beq k i) = true)
    (hQ : ∀ ch a w (d : Nat) v, Q (.panic ch) (a.put (some d) v) w → Q (.panic ch) a w) (hg : oi.guard = none) (hT2 : Sub T2 H) (hT : Sub T H)
    (h : J c (OT P T.flatten oi (AP P ops Q T2.flatten T.flatten k m (l.setIfInBounds i true))) S H) :
    J c (AP P ops Q T2.flatten T.flatten k (m + 1) l) S H :=
  fun a w hfr hst => by
    simp only [canTake, Bool.and_eq_true] at hs
    simp only [Bool.and_eq_true, Bool.not_eq_true', List.contains_iff_mem] at hL
    obtain ⟨⟨⟨h1, h2⟩, h3⟩, h4⟩ := hL
    obtain ⟨v, d, hd, hv, hk⟩ := h a w hfr hst
    have hl := none_of_spec h2
    exact wpO_first (T := Holds T.flatten) hi (Region.noSelect_spec hs.1.1) (fun ch a w hq => hQ ch a w d v (by rw [← hd]; exact hq)) h1 (fun l w hll ht => ht.2 (hll k h3)) (til_setP h4) m l a w
      (Region.free_spec hi hs.1.2) (by simpa using hs.2) hl (.inl ⟨by simp [Region.wanted, hg], hv⟩) ⟨hT2.holds hst, fun _ => hT.holds hst⟩ (by rw [hd]; exact hk)
theorem J.takePW {T2 T : Hs} {k : Nat} (i : Nat) (L : List Nat) {oi : Oper} {m j dj : Nat} {t : Bool} {l : Array Bool} (hi : ops[i]? = some oi) (hs : canTake ops l i = true) (hL : (late ops L i && none_of l L && L.contains k && !Nat.beq k i) = true)
    (hQ : ∀ ch a w (d : Nat) v, Q (.panic ch) (a.put (some d) v) w → Q (.panic ch) a w) (hg : oi.guard = some (j, t)) (hdj : (ops[j]?).bind (·.dst) = some dj) (hsj : S.get dj = some (.bool t)) (hT2 : Sub T2 H) (hT : Sub T H)
    (h : J c (OT P T.flatten oi (AP P ops Q T2.flatten T.flatten k m (l.setIfInBounds i true))) S H) :
    J c (AP P ops Q T2.flatten T.flatten k (m + 1) l) S H :=
  fun a w hfr hst => by
    simp only [canTake, Bool.and_eq_true] at hs
    simp only [Bool.and_eq_true, Bool.not_eq_true', List.contains_iff_mem] at hL
    obtain ⟨⟨⟨h1, h2⟩, h3⟩, h4⟩ := hL
    obtain ⟨v, d, hd, hv, hk⟩ := h a w hfr hst
    have hl := none_of_spec h2
    exact wpO_first (T := Holds T.flatten) hi (Region.noSelect_spec hs.1.1) (fun ch a w hq => hQ ch a w d v (by rw [← hd]; exact hq)) h1 (fun l w hll ht => ht.2 (hll k h3)) (til_setP h4) m l a w
      (Region.free_spec hi hs.1.2) (by simpa using hs.2) hl (.inl ⟨by simp [Region.wanted, hg, yielded_of hfr hdj hsj], hv⟩) ⟨hT2.holds hst, fun _ => hT.holds hst⟩ (by rw [hd]; exact hk)

/-- One that looks at no block. -/
theorem J.takeG {T2 T : Hs} {k : Nat} (i : Nat) {oi : Oper} {m : Nat} {l : Array Bool} (hi : ops[i]? = some oi) (hs : canTake ops l i = true) (hL : (none_of l [i] && !Nat.beq k i) = true)
    (hQ : ∀ ch a w (d : Nat) v, Q (.panic ch) (a.put (some d) v) w → Q (.panic ch) a w) (hg : oi.guard = none) (hT : CurP T2 T H k l)
    (h : J c (OT P ([] : Hs).flatten oi (AP P ops Q T2.flatten T.flatten k m (l.setIfInBounds i true))) S H) :
    J c (AP P ops Q T2.flatten T.flatten k (m + 1) l) S H :=
  fun a w hfr hst => by
    simp only [canTake, Bool.and_eq_true] at hs
    simp only [Bool.and_eq_true, Bool.not_eq_true'] at hL
    obtain ⟨h2, h4⟩ := hL
    obtain ⟨v, d, hd, hv, hk⟩ := h a w hfr hst
    exact wpO_first (T := fun _ => True) hi (Region.noSelect_spec hs.1.1) (fun ch a w hq => hQ ch a w d v (by rw [← hd]; exact hq)) (late_one i) (fun l w hll ht => trivial) (til_setP h4) m l a w
      (Region.free_spec hi hs.1.2) (by simpa using hs.2) (none_of_spec h2) (.inl ⟨by simp [Region.wanted, hg], fun w' _ => hv w' (fun b o hm => by cases hm)⟩) (hT.til hst) (by rw [hd]; exact hk)
theorem J.takeGW {T2 T : Hs} {k : Nat} (i : Nat) {oi : Oper} {m j dj : Nat} {t : Bool} {l : Array Bool} (hi : ops[i]? = some oi) (hs : canTake ops l i = true) (hL : (none_of l [i] && !Nat.beq k i) = true)
    (hQ : ∀ ch a w (d : Nat) v, Q (.panic ch) (a.put (some d) v) w → Q (.panic ch) a w) (hg : oi.guard = some (j, t)) (hdj : (ops[j]?).bind (·.dst) = some dj) (hsj : S.get dj = some (.bool t)) (hT : CurP T2 T H k l)
    (h : J c (OT P ([] : Hs).flatten oi (AP P ops Q T2.flatten T.flatten k m (l.setIfInBounds i true))) S H) :
    J c (AP P ops Q T2.flatten T.flatten k (m + 1) l) S H :=
  fun a w hfr hst => by
    simp only [canTake, Bool.and_eq_true] at hs
    simp only [Bool.and_eq_true, Bool.not_eq_true'] at hL
    obtain ⟨h2, h4⟩ := hL
    obtain ⟨v, d, hd, hv, hk⟩ := h a w hfr hst
    exact wpO_first (T := fun _ => True) hi (Region.noSelect_spec hs.1.1) (fun ch a w hq => hQ ch a w d v (by rw [← hd]; exact hq)) (late_one i) (fun l w hll ht => trivial) (til_setP h4) m l a w
      (Region.free_spec hi hs.1.2) (by simpa using hs.2) (none_of_spec h2) (.inl ⟨by simp [Region.wanted, hg, yielded_of hfr hdj hsj], fun w' _ => hv w' (fun b o hm => by cases hm)⟩) (hT.til hst) (by rw [hd]; exact hk)
/-- A reader of what lasts. -/
theorem J.takeL {T2 T : Hs} {k : Nat} (i : Nat) {oi : Oper} {m : Nat} {l : Array Bool} (hi : ops[i]? = some oi) (hs : canTake ops l i = true) (hL : (none_of l [i] && !Nat.beq k i) = true)
    (hQ : ∀ ch a w (d : Nat) v, Q (.panic ch) (a.put (some d) v) w → Q (.panic ch) a w) (hg : oi.guard = none) (hT : CurP T2 T H k l)
    (h : J c (OT P T2.flatten oi (AP P ops Q T2.flatten T.flatten k m (l.setIfInBounds i true))) S H) :
    J c (AP P ops Q T2.flatten T.flatten k (m + 1) l) S H :=
  fun a w hfr hst => by
    simp only [canTake, Bool.and_eq_true] at hs
    simp only [Bool.and_eq_true, Bool.not_eq_true'] at hL
    obtain ⟨h2, h4⟩ := hL
    obtain ⟨v, d, hd, hv, hk⟩ := h a w hfr hst
    exact wpO_first (T := Holds T2.flatten) hi (Region.noSelect_spec hs.1.1) (fun ch a w hq => hQ ch a w d v (by rw [← hd]; exact hq)) (late_one i) (fun l w hll ht => ht.1) (til_setP h4) m l a w
      (Region.free_spec hi hs.1.2) (by simpa using hs.2) (none_of_spec h2) (.inl ⟨by simp [Region.wanted, hg], hv⟩) (hT.til hst) (by rw [hd]; exact hk)
theorem J.takeLW {T2 T : Hs} {k : Nat} (i : Nat) {oi : Oper} {m j dj : Nat} {t : Bool} {l : Array Bool} (hi : ops[i]? = some oi) (hs : canTake ops l i = true) (hL : (none_of l [i] && !Nat.beq k i) = true)
    (hQ : ∀ ch a w (d : Nat) v, Q (.panic ch) (a.put (some d) v) w → Q (.panic ch) a w) (hg : oi.guard = some (j, t)) (hdj : (ops[j]?).bind (·.dst) = some dj) (hsj : S.get dj = some (.bool t)) (hT : CurP T2 T H k l)
    (h : J c (OT P T2.flatten oi (AP P ops Q T2.flatten T.flatten k m (l.setIfInBounds i true))) S H) :
    J c (AP P ops Q T2.flatten T.flatten k (m + 1) l) S H :=
  fun a w hfr hst => by
    simp only [canTake, Bool.and_eq_true] at hs
    simp only [Bool.and_eq_true, Bool.not_eq_true'] at hL
    obtain ⟨h2, h4⟩ := hL
    obtain ⟨v, d, hd, hv, hk⟩ := h a w hfr hst
    exact wpO_first (T := Holds T2.flatten) hi (Region.noSelect_spec hs.1.1) (fun ch a w hq => hQ ch a w d v (by rw [← hd]; exact hq)) (late_one i) (fun l w hll ht => ht.1) (til_setP h4) m l a w
      (Region.free_spec hi hs.1.2) (by simpa using hs.2) (none_of_spec h2) (.inl ⟨by simp [Region.wanted, hg, yielded_of hfr hdj hsj], hv⟩) (hT.til hst) (by rw [hd]; exact hk)
/-- One that its guard passes over. -/
theorem J.takeGN {T2 T : Hs} {k : Nat} (i : Nat) {oi : Oper} {d m j dj : Nat} {t u : Bool} {l : Array Bool} (hi : ops[i]? = some oi) (hd : oi.dst = some d) (hn : Nat.blt d c.n = true) (hs : canTake ops l i = true) (hL : (none_of l [i] && !Nat.beq k i) = true)
    (hQ : ∀ ch a w (d : Nat) v, Q (.panic ch) (a.put (some d) v) w → Q (.panic ch) a w) (hg : oi.guard = some (j, t)) (hdj : (ops[j]?).bind (·.dst) = some dj) (hsj : S.get dj = some (.bool u)) (hne : (u == t) = false) (hT : CurP T2 T H k l)
    (h : J c (AP P ops Q T2.flatten T.flatten k m (l.setIfInBounds i true)) ((d, undef) :: S) H) :
    J c (AP P ops Q T2.flatten T.flatten k (m + 1) l) S H :=
  fun a w hfr hst => by
    simp only [canTake, Bool.and_eq_true] at hs
    simp only [Bool.and_eq_true, Bool.not_eq_true'] at hL
    obtain ⟨h2, h4⟩ := hL
    exact wpO_first (T := fun _ => True) hi (Region.noSelect_spec hs.1.1) (fun ch a w hq => hQ ch a w d undef (by rw [← hd]; exact hq)) (late_one i) (fun l w hll ht => trivial) (til_setP h4) m l a w
      (Region.free_spec hi hs.1.2) (by simpa using hs.2) (none_of_spec h2) (.inr ⟨by simp only [Region.wanted, hg, yielded_of hfr hdj hsj]; simpa using hne, rfl⟩) (hT.til hst) (by rw [hd]; exact h _ w (hfr.put hn undef) hst)
theorem J.takeGU {T2 T : Hs} {k : Nat} (i : Nat) {oi : Oper} {d m j dj : Nat} {t : Bool} {l : Array Bool} (hi : ops[i]? = some oi) (hd : oi.dst = some d) (hn : Nat.blt d c.n = true) (hs : canTake ops l i = true) (hL : (none_of l [i] && !Nat.beq k i) = true)
    (hQ : ∀ ch a w (d : Nat) v, Q (.panic ch) (a.put (some d) v) w → Q (.panic ch) a w) (hg : oi.guard = some (j, t)) (hdj : (ops[j]?).bind (·.dst) = some dj) (hsj : S.get dj = some undef) (hT : CurP T2 T H k l)
    (h : J c (AP P ops Q T2.flatten T.flatten k m (l.setIfInBounds i true)) ((d, undef) :: S) H) :
    J c (AP P ops Q T2.flatten T.flatten k (m + 1) l) S H :=
  fun a w hfr hst => by
    simp only [canTake, Bool.and_eq_true] at hs
    simp only [Bool.and_eq_true, Bool.not_eq_true'] at hL
    obtain ⟨h2, h4⟩ := hL
    exact wpO_first (T := fun _ => True) hi (Region.noSelect_spec hs.1.1) (fun ch a w hq => hQ ch a w d undef (by rw [← hd]; exact hq)) (late_one i) (fun l w hll ht => trivial) (til_setP h4) m l a w
      (Region.free_spec hi hs.1.2) (by simpa using hs.2) (none_of_spec h2) (.inr ⟨by simp [Region.wanted, hg, yielded_undef hfr hdj hsj], rfl⟩) (hT.til hst) (by rw [hd]; exact h _ w (hfr.put hn undef) hst)

/-- Whichever of those that may come comes. -/
theorem J.eachP {T2 T : Hs} {k : Nat} (rs : List Nat) {m : Nat} {l : Array Bool} (hr : Region.ready .any ops l = rs) (hne : rs.isEmpty = false)
    (h : ∀ i, i ∈ rs → J c (Go.wpOp P ops Q i (HP T2.flatten T.flatten k (l.setIfInBounds i true) (AP P ops Q T2.flatten T.flatten k m (l.setIfInBounds i true)))) S H) :
    J c (AP P ops Q T2.flatten T.flatten k (m + 1) l) S H :=
  fun a w hf hs => by
    refine ⟨fun h0 => ?_, fun i hi => h i (hr ▸ hi) a w hf hs⟩
    rw [hr] at h0
    rw [h0] at hne
    cases hne
theorem J.oneP {T2 T : Hs} {k : Nat} (i : Nat) {oi : Oper} {m : Nat} {l : Array Bool} (hr : Region.ready .any ops l = [i]) (hi : ops[i]? = some oi) (hg : oi.guard = none)
    (h : J c (OW P oi (HP T2.flatten T.flatten k (l.setIfInBounds i true) (AP P ops Q T2.flatten T.flatten k m (l.setIfInBounds i true))) Q) S H) :
    J c (AP P ops Q T2.flatten T.flatten k (m + 1) l) S H :=
  J.eachP [i] hr rfl fun j hj => by
    obtain rfl : j = i := by simpa using hj
    exact J.wpOp hi hg h
theorem J.onePW {T2 T : Hs} {k : Nat} (i : Nat) {oi : Oper} {m j dj : Nat} {t : Bool} {l : Array Bool} (hr : Region.ready .any ops l = [i]) (hi : ops[i]? = some oi) (hg : oi.guard = some (j, t)) (hdj : (ops[j]?).bind (·.dst) = some dj) (hsj : S.get dj = some (.bool t))
    (h : J c (OW P oi (HP T2.flatten T.flatten k (l.setIfInBounds i true) (AP P ops Q T2.flatten T.flatten k m (l.setIfInBounds i true))) Q) S H) :
    J c (AP P ops Q T2.flatten T.flatten k (m + 1) l) S H :=
  J.eachP [i] hr rfl fun q hq => by
    obtain rfl : q = i := by simpa using hq
    intro a w hf hs
    show Go.wpOp P ops Q _ _ a w
    unfold Go.wpOp
    rw [hi]
    simp only [Region.wanted, hg, yielded_of hf hdj hsj, beq_self_eq_true, if_true]
    exact .inl (h a w hf hs)
theorem J.heldP {T2 T : Hs} {k : Nat} {l : Array Bool} {X : Act → World → Prop} (hT2 : Sub T2 H) (hT : Sub T H) (h : J c X S H) : J c (HP T2.flatten T.flatten k l X) S H :=
  fun a w hf hs => ⟨⟨hT2.holds hs, fun _ => hT.holds hs⟩, h a w hf hs⟩
theorem J.pastP {T2 : Hs} {T : Heap} {k : Nat} {l : Array Bool} {X : Act → World → Prop} (hT2 : Sub T2 H) (hk : l.getD k true = true) (h : J c X S H) : J c (HP T2.flatten T k l X) S H :=
  fun a w hf hs => ⟨⟨hT2.holds hs, fun h' => (by rw [hk] at h'; cases h')⟩, h a w hf hs⟩
theorem J.allP {T2 T : Hs} {k m : Nat} {l : Array Bool} (hr : Region.ready .any ops l = []) (h : J c (XW Q .normal) S H) :
    J c (AP P ops Q T2.flatten T.flatten k m l) S H :=
  fun a w hf hs => by
    cases m with
    | zero => exact ⟨hr, h a w hf hs⟩
    | succ m =>
      refine ⟨fun _ => h a w hf hs, fun i hi => ?_⟩
      rw [hr] at hi
      cases hi
end
end Go.Proofs.YE
