/- Part MB of the walks that a statement of this seat is proved by: laws of memory, then the functions one by one. -/
import Derived.Lib.UnsafeStr
import Derived.Lib.MakeNoZero
import Derived.Lib.Builder
import Derived.Laws.Externs
import Derived.Laws.LoneSync
import Derived.Laws.StructEq
import Derived.RangeFuncLeaves
import Derived.RangeFuncRecord
import Derived.KernelRfl
import Derived.Test.YtoflbjncpliplaaGreatMA
namespace Go.Proofs.YE
open Go
section
variable {P : Program} {Q : Exit → Act → World → Prop} {c : Cx} {S : Slots} {H : Hs} {K : Act → World → Prop} {o : Oper} {n : Nat}

theorem Gives.arrPtr {T m e sz : Nat} {x : Operand} {b k q cp : Nat} [h : ArrOf P T m e sz] (ho : o.op = .sliceToArrayPointer T x) (hx : ev S x = some (slc b k q cp)) (hm : Nat.ble m q = true) : Gives P n o (ptr b k) S H := fun a w hf _ => by
  have : ¬ q < m := by have := Nat.le_of_ble_eq_true hm; omega
  unfold execOp; rw [ho]; simp [hf.ev hx, Instr.arrayAt, und_run h.und, this]

/-- 'append(x, s...)' of a text that fits. -/
theorem J.appendStr {T U e sz bytes d : Nat} {x y : Operand} {b m cp : Nat} {l : List Value} {e' : TypeId} {z : Nat × Nat} {s : ByteArray} {ty : TypeId} {pos : String} {after : Array Edge} {g : Option (Nat × Bool)} [hT : SliceOf P T e sz bytes] [hU : StrT P U] (i : Nat)
    (hsz : (sz == 1) = true) (hx : ev S x = some (slc b 0 m cp)) (hy : ev S y = some (.string s)) (hp : H[i]? = some [(b, .cells l e' z)]) (hfit : m + s.size ≤ cp) (hl : m + s.size ≤ l.length) (hz : noFz z m s.size = true) (hn : Nat.blt d c.n = true)
    {H' : Hs} (hH : H.set i [(b, .cells (splice l m (bv s)) e' z)] = H') (h : J c K ((d, slc b 0 (m + s.size) cp) :: S) H') :
    J c (OW P ⟨some d, .call { callee := .builtin .append, args := #[x, y], argTypes := #[T, U] }, ty, pos, after, g⟩ K Q) S H :=
  J.turn (v := slc b 0 (m + s.size) cp) (ho' := .cells (splice l m (bv s)) e' z) hp (fun a w hf hh => by
    have hw := hh b _ (mem_one hp)
    obtain rfl : sz = 1 := by simpa using hsz
    have h1 := storeCells_run (P := P) (k := m) (bv s) 0 w l hw (by rw [bv_len]; omega) (bv_one s) (fun j hj => by
      rw [bv_len] at hj
      simp [noFz] at hz
      omega)
    rw [Nat.add_zero] at h1
    have hd : (s.extract 0 s.size).data.map (fun b => Value.int .u8 b.toNat) = (bv s).toArray := by
      have : s.extract 0 s.size = s := by simp
      rw [this]; unfold bv; apply Array.ext'; rw [Array.toList_map]
    have hadd : (Addr.add ⟨b, 0, none⟩ m) = ⟨b, m, none⟩ := by
      by_cases h0 : m = 0
      · subst h0; rfl
      · simp [Addr.add, h0]
    have happ : (Builtin.append_ #[T, U] ty #[slc b 0 m cp, .string s]).run P w = .ok (slc b 0 (m + s.size) cp) (setBlk w b (HO.cells (splice l m (bv s)) e' z).obj') := by
      unfold Builtin.append_
      simp only [List.getElem?_toArray, List.getElem?_cons_zero, List.getElem?_cons_succ, Sem.run_bind, und_run hT.und, und_run hU.und, size_run hT.size, Result.andThen_ok, Sem.run_pure, Builtin.lenOf, hfit, if_true, Bool.not_false, Builtin.firstCells, Nat.mul_one, hd, hadd]
      simp only [Bool.false_eq_true, if_false, Sem.run_bind, Sem.run_pure, Result.andThen_ok, Builtin.lenOf, hfit, if_true, HO.obj']
      rw [hd]
      show ((Sem.run P (storeCells ⟨b, m, none⟩ (bv s)) w).andThen _) = _
      rw [h1]; rfl
    unfold execOp
    simp [resolve, invoke, builtin, hf.ev hx, hf.ev hy, happ]) rfl hn (by rw [hH]; exact h)

theorem zeroCells_one (z : Value) (q : Nat) : Builtin.zeroCells #[z] q = (List.replicate q z).toArray := by
  unfold Builtin.zeroCells
  apply Array.ext'
  simp [List.eq_replicate_iff, Nat.mod_one]
/-- 'append(x, make([]T, q)...)' that fits. -/
theorem J.appendZ {T U e sz bytes d : Nat} {zv : Value} {k : IntKind} {x y : Operand} {b m cp : Nat} {q : Int} {l : List Value} {e' : TypeId} {z : Nat × Nat} {ty : TypeId} {pos : String} {after : Array Edge} {g : Option (Nat × Bool)} [hT : SliceOf P T e sz bytes] [hU : IntOf P U k] [hZ : Zero P e zv] (i : Nat)
    (hsz : (sz == 1) = true) (hzv : zv.oneCell' = true) (hx : ev S x = some (slc b 0 m cp)) (hy : ev S y = some (i64 q)) (hq : 0 ≤ q ∧ q ≤ 1000000) (hby : bytes ≤ 1000) (hp : H[i]? = some [(b, .cells l e' z)]) (hfit : m + q.toNat ≤ cp) (hl : m + q.toNat ≤ l.length) (hz : noFz z m q.toNat = true) (hn : Nat.blt d c.n = true)
    {H' : Hs} (hH : H.set i [(b, .cells (splice l m (List.replicate q.toNat zv)) e' z)] = H') (h : J c K ((d, slc b 0 (m + q.toNat) cp) :: S) H') :
    J c (OW P ⟨some d, .call { callee := .builtin .append, args := #[x, y], argTypes := #[T, U] }, ty, pos, after, g⟩ K Q) S H :=
  J.turn (v := slc b 0 (m + q.toNat) cp) (ho' := .cells (splice l m (List.replicate q.toNat zv)) e' z) hp (fun a w hf hh => by
    have hw := hh b _ (mem_one hp)
    obtain rfl : sz = 1 := by simpa using hsz
    have hzc : zv.cells = #[zv] := by cases zv <;> first | rfl | (simp [Value.oneCell'] at hzv)
    have h1 := storeCells_run (P := P) (k := m) (List.replicate q.toNat zv) 0 w l hw (by simp; omega) (fun u hu => by rw [(List.mem_replicate.1 hu).2]; exact hzv) (fun j hj => by
      simp at hj
      simp [noFz] at hz
      omega)
    rw [Nat.add_zero] at h1
    have hadd : (Addr.add ⟨b, 0, none⟩ m) = ⟨b, m, none⟩ := by
      by_cases h0 : m = 0
      · subst h0; rfl
      · simp [Addr.add, h0]
    obtain ⟨inf, hi1, hi2⟩ := bytes_run (P := P) (w := w) hT.bytes
    have hwr : IntKind.i64.wrap q = q := wrap64_in (by omega)
    have hm : q * (bytes : Int) ≤ 1000000 * 1000 := by
      exact Int.mul_le_mul hq.2 (by omega) (by omega) (by omega)
    have hb1 : ¬ q * (inf.bytes : Int) > 2 ^ 48 := by rw [hi2]; omega
    have hb0 : ¬ q < 0 := by omega
    have hapz : (if q.toNat * 1 = 0 then (pure #[] : Sem (Array Value)) else do pure (Builtin.zeroCells (← zeroValue e).cells q.toNat)).run P w = .ok (List.replicate q.toNat zv).toArray w := by
      by_cases h0 : q.toNat * 1 = 0
      · have : q.toNat = 0 := by omega
        rw [if_pos h0, this]; rfl
      · rw [if_neg h0]
        simp only [Sem.run_bind, zero_run (P := P) (T := e), Result.andThen_ok, hzc, zeroCells_one, Sem.run_pure]
    have happ : (Builtin.append_ #[T, U] ty #[slc b 0 m cp, i64 q]).run P w = .ok (slc b 0 (m + q.toNat) cp) (setBlk w b (HO.cells (splice l m (List.replicate q.toNat zv)) e' z).obj') := by
      unfold Builtin.append_
      simp only [List.getElem?_toArray, List.getElem?_cons_zero, List.getElem?_cons_succ, Sem.run_bind, und_run hT.und, und_run hU.und, size_run hT.size, Result.andThen_ok, Sem.run_pure, asInt, asIntOf, hwr, hb0, if_true, if_false, hi1, hb1, hfit, hadd]
      rw [if_neg (by decide), hapz, Result.andThen_ok, Nat.mul_one, hadd]
      show ((Sem.run P (storeCells ⟨b, m, none⟩ (List.replicate q.toNat zv)) w).andThen _) = _
      rw [h1]; rfl
    unfold execOp
    simp [resolve, invoke, builtin, hf.ev hx, hf.ev hy, happ]) rfl hn (by rw [hH]; exact h)
end
end Go.Proofs.YE
namespace Go.Proofs.YE
open Go
section
variable {P : Program} {Q : Exit → Act → World → Prop} {c : Cx} {S : Slots} {H : Hs} {K : Act → World → Prop} {o : Oper} {n : Nat}

theorem Gives.sliceData {x : Operand} {ats : Array TypeId} {b k m cp : Nat} (ho : o.op = .call { callee := .builtin .unsafeSliceData, args := #[x], argTypes := ats }) (hx : ev S x = some (slc b k m cp)) (hc : Nat.blt 0 cp = true) : Gives P n o (ptr b k) S H := fun a w hf _ => by
  have : cp ≠ 0 := by have : 0 < cp := by simpa [Nat.blt_eq] using hc
                      omega
  have h1 := Lib.run_unsafeSliceData_row (P := P) (w := w) ats o.type ⟨b, k, none⟩ m cp this
  unfold execOp; rw [ho]; simp [resolve, invoke, builtin, hf.ev hx, h1]

theorem Gives.ptrNeSelf {T U e sz : TypeId} {x y : Operand} {b k : Nat} [h : PtrT P T e] [hs : Siz P e sz] (hz : (sz == 0) = false) (ho : o.op = .binOp .neq T x y U) (hx : ev S x = some (ptr b k)) (hy : ev S y = some (ptr b k)) : Gives P n o (.bool false) S H := fun a w hf _ => by
  have hz' : sz ≠ 0 := by simpa using hz
  have h1 : (Op.equal T (ptr b k) (ptr b k)).run P w = .ok true w := by
    unfold Op.equal
    rw [show Op.maxDepth = 9999 + 1 from rfl, Op.equalIn]
    simp [und_run h.und, size_run hs.size, hz', sameAddr]
  have h2 : (binOp .neq T (ptr b k) (ptr b k)).run P w = .ok (.bool false) w := by
    have e : binOp .neq T (ptr b k) (ptr b k) = (do pure (.bool (!(← Op.equal T (ptr b k) (ptr b k))))) := rfl
    rw [e, Sem.run_bind, h1]; rfl
  unfold execOp; rw [ho]; simp only [hf.ev hx, hf.ev hy]
  simp [eqGuard, h2]

theorem freeze_blk {w : World} {b : Nat} {l : List Value} {e : TypeId} {m q : Nat} (h : w.heap[b]? = some (.cells l.toArray e (0, m))) (hq : 0 < q) (hm : m ≤ q) :
    w.freeze ⟨b, 0, none⟩ q = setBlk w b (.cells l.toArray e (0, q)) := by
  have hlt : b < w.heap.size := (Array.getElem?_eq_some_iff.1 h).1
  have hz : (if (0 : Nat) == m then ((0 : Nat), 0 + q) else (min 0 0, max m (0 + q))) = (0, q) := by
    by_cases h0 : m = 0
    · subst h0; simp
    · have : ((0 : Nat) == m) = false := by simp; omega
      rw [this]; simp; omega
  unfold World.freeze setBlk
  rw [if_neg (by omega)]
  congr 1
  apply Array.ext_getElem?
  intro i
  by_cases hi : b = i
  · subst hi
    rw [Array.getElem?_modify, if_pos rfl, h]
    simp only [Option.map_some]
    rw [Array.getElem?_setIfInBounds_self_of_lt hlt]
    simp only [hz]
  · rw [Array.getElem?_modify, if_neg hi, Array.getElem?_setIfInBounds_ne hi]

/-- 'unsafe.String(p, n)' over the first n bytes of a row, n > 0. -/
theorem J.unsafeStr {pt it e d : TypeId} {x y : Operand} {ty : TypeId} {pos : String} {after : Array Edge} {g : Option (Nat × Bool)} {b m : Nat} {l : List Value} {s : ByteArray} [hT : PtrT P pt e] (i : Nat) (hce : P.cellsOf e = 1)
    (hx : ev S x = some (ptr b 0)) (hy : ev S y = some (i64 s.size)) (hp : H[i]? = some [(b, .cells l e (0, m))]) (hs : 0 < s.size) (hs' : s.size ≤ 1000000000) (hm : m ≤ s.size) (hl : l.take s.size = bv s) (hn : Nat.blt d c.n = true)
    {H' : Hs} (hH : H.set i [(b, .cells l e (0, s.size))] = H') (h : J c K ((d, .string s) :: S) H') :
    J c (OW P ⟨some d, .call { callee := .builtin .unsafeString, args := #[x, y], argTypes := #[pt, it] }, ty, pos, after, g⟩ K Q) S H :=
  J.turn (v := .string s) (ho' := .cells l e (0, s.size)) hp (fun a w hf hh => by
    have hw := hh b _ (mem_one hp)
    simp only [HO.obj'] at hw
    have hsl : s.data.toList.length = s.size := rfl
    have hll : s.size ≤ l.length := by
      have := congrArg List.length hl
      rw [bv_len, List.length_take] at this
      omega
    have h1 := Lib.run_unsafeString_row (P := P) (w := w) pt it ty e hT.und hce b l.length (by simp [World.shape?, hw]) s.data.toList (by intro h0; rw [← hsl, h0] at hs; simp at hs) (by rw [hsl]; exact hll) (by rw [hsl]; omega)
      (fun j u hj => by
        have hj' : l[j]? = some (.int .u8 u.toNat) := by
          have hb : (bv s)[j]? = some (.int .u8 u.toNat) := by unfold bv; rw [List.getElem?_map, hj]; rfl
          rw [← hl, List.getElem?_take] at hb
          split at hb
          · exact hb
          · cases hb
        have := cell_of hh (mem_one hp) hj'
        by_cases h0 : j = 0
        · subst h0; simpa [Addr.add] using this
        · simpa [Addr.add, h0] using this)
    rw [hsl, freeze_blk hw hs hm] at h1
    have h3 : (⟨s.data.toList.toArray⟩ : ByteArray) = s := rfl
    rw [h3] at h1
    unfold execOp
    simp [resolve, invoke, builtin, hf.ev hx, hf.ev hy, h1, HO.obj']) rfl hn (by rw [hH]; exact h)
end
end Go.Proofs.YE
namespace Go.Proofs.YE
open Go
section
variable {P : Program} {Q : Exit → Act → World → Prop} {c : Cx} {S : Slots} {H : Hs} {K : Act → World → Prop} {n : Nat}

theorem J.makeNoZero {f : FuncId} {fn : Func} {ps : Array TypeId} {T e d : TypeId} {x : Operand} {m : Nat} {ats : Array TypeId} {ty : TypeId} {pos : String} {after : Array Edge} {g : Option (Nat × Bool)}
    (hf : P.funcs[f]? = some fn) (hname : (fn.name == "runtime.NumGoroutine") = false) (hb : fn.body.isNone = true) (hne : Extern.findNext fn = none) (he : Extern.find fn = some (Extern.BytealgMakeNoZero.makeNoZero ps #[T]))
    (hT : P.underlying T = some (.slice e)) (hx : ev S x = some (i64 m)) (hm : m ≤ 1000000000) (hn : Nat.blt d c.n = true)
    (h : ∀ b cs, m ≤ cs.length → J c K ((d, slc b 0 m cs.length) :: S) ([(b, .cells cs e (0, 0))] :: H)) :
    J c (OW P ⟨some d, .call { callee := .value (.func f), args := #[x], argTypes := ats }, ty, pos, after, g⟩ K Q) S H :=
  fun a w hfr hs => by
    show Oper.upon P _ a K Q ((execOp a.eval _).run P w)
    obtain ⟨cs, h1, h2, _⟩ := Lib.run_makeNoZero (P := P) w ps T e hT m (by omega)
    have hx' : #[x].map a.eval = #[i64 m] := by simp [hfr.ev hx]
    rw [execOp_call_go, run_callFunc_extern hf hname hb hne he, hx']
    simp only [Array.append_empty, Array.empty_append, h1, Result.andThen_ok]
    rw [Oper.upon_value]
    have h3 := hs.drew.drew.alloc (.cells cs.toList e (0, 0))
    have h4 := h w.heap.size cs.toList (by simpa using h2) _ _ (hfr.put hn _) (by
      rw [List.flatten_cons]; exact h3)
    have h5 : (cs.toList).length = cs.size := by simp
    rw [h5] at h4
    exact h4

theorem Gives.noEscape {f : FuncId} {fn : Func} {x : Operand} {v : Value} {ats : Array TypeId} {ty : TypeId} {pos : String} {after : Array Edge} {g : Option (Nat × Bool)} {dst : Option Nat}
    (hf : P.funcs[f]? = some fn) (hname : (fn.name == "runtime.NumGoroutine") = false) (hb : fn.body.isNone = true) (hne : Extern.findNext fn = none) (he : Extern.find fn = some Extern.AbiNoEscape.same) (hx : ev S x = some v) :
    Gives P n ⟨dst, .call { callee := .value (.func f), args := #[x], argTypes := ats }, ty, pos, after, g⟩ v S H := fun a w hfr _ => by
  have hx' : #[x].map a.eval = #[v] := by simp [hfr.ev hx]
  rw [execOp_call_go, run_callFunc_extern hf hname hb hne he, hx']
  have hs : (Extern.AbiNoEscape.same #[v]).run P w = .ok v w := rfl
  simp only [Array.append_empty, Array.empty_append, hs, Result.andThen_ok]
theorem Gives.toUnsafe {o : Oper} {T U t : TypeId} {x : Operand} {b k sz : Nat} {l : List Value} {e : TypeId} {z : Nat × Nat} {v : Value} [hT : PtrT P T t] [hs : Siz P t sz] (i : Nat) (hU : P.underlying U = some .unsafePointer) (hz : (sz == 0) = false) (ho : o.op = .convert T U x) (hx : ev S x = some (ptr b k))
    (hp : H[i]? = some [(b, .cells l e z)]) (hv : l[k]? = some v) : Gives P n o (ptr b k) S H := fun a w hf hh => by
  have hc := cell_of hh (mem_one hp) hv
  have hsz : (P.info? t).map (fun i => decide (i.size = 0)) = some false := by
    have := hs.size
    cases hi : P.info? t with
    | none => rw [hi] at this; cases this
    | some inf => rw [hi] at this; simp at this ⊢; rw [this]; simpa using hz
  have h1 := run_convert_to_unsafe (P := P) hT.und hU hsz hc
  unfold execOp; rw [ho]; simp [hf.ev hx, h1]
theorem Gives.fromUnsafe {o : Oper} {T U u e : TypeId} {x : Operand} {b k : Nat} {l : List Value} {z : Nat × Nat} {j : TypeInfo} [hU : PtrT P U u] (i : Nat) (hT : P.underlying T = some .unsafePointer) (hj : P.info? u = some j) (ho : o.op = .convert T U x) (hx : ev S x = some (ptr b k))
    (hp : H[i]? = some [(b, .cells l e z)]) (hlies : liesAt P P.depth e (l.length / P.cellsOf e) k u 1 = true) : Gives P n o (ptr b k) S H := fun a w hf hh => by
  have hw := hh b _ (mem_one hp)
  simp only [HO.obj'] at hw
  have h1 := Lib.run_from_unsafe (P := P) (w := w) (src := T) (dst := U) (e := e) (cells := l.length) ⟨b, k, none⟩ hT hU.und hj (by simp [World.shape?, hw]) hlies
  unfold execOp; rw [ho]; simp [hf.ev hx, h1]
theorem Gives.capS {o : Oper} {x : Operand} {p : Option Addr} {m cp : Nat} {T e sz by_ : Nat} [h : SliceOf P T e sz by_] (ho : o.op = .call { callee := .builtin .cap, args := #[x], argTypes := #[T] }) (hx : ev S x = some (.slice p m cp)) : Gives P n o (i64 cp) S H := fun a w hf _ => by
  unfold execOp; rw [ho]; simp [resolve, invoke, builtin, Builtin.cap_, hf.ev hx, und_run h.und, goInt]
theorem Gives.copyNil {o : Oper} {x y : Operand} {p : Option Addr} {m cp : Nat} {T U e sz by_ : Nat} [h : SliceOf P T e sz by_] (ho : o.op = .call { callee := .builtin .copy, args := #[x, y], argTypes := #[T, U] }) (hx : ev S x = some (.slice p m cp)) (hy : ev S y = some nils) : Gives P n o (i64 0) S H := fun a w hf _ => by
  unfold execOp; rw [ho]
  cases p <;> simp [resolve, invoke, builtin, Builtin.copy_, hf.ev hx, hf.ev hy, und_run h.und, Builtin.lenOf, Builtin.firstCells, size_run h.size, goInt, storeCells]
end
end Go.Proofs.YE
namespace Go.Proofs.YE
open Go

/-! ### A key of two numbers -/
class Two (P : Program) (T : TypeId) (k : outParam IntKind) : Prop where
  und : (match P.underlying T with | some (.struct fs) => (fs.toList.map fun f => (f.name == "_", f.type, f.offset)) | _ => []) = [(false, 3, 0), (false, 3, 1)]
  int : P.underlying 3 = some (.int k)
  held : P.stoodInHeld T = false
abbrev two (k : IntKind) (p : Int × Int) : Value := .agg #[.int k p.1, .int k p.2]

section
variable {P : Program} {T : TypeId} {k : IntKind}
theorem two_fields [h : Two P T k] : ∃ f g : Field, P.underlying T = some (.struct #[f, g]) ∧ f.name ≠ "_" ∧ f.type = 3 ∧ f.offset = 0 ∧ g.name ≠ "_" ∧ g.type = 3 ∧ g.offset = 1 := by
  have hu := h.und
  cases hd : P.underlying T with
  | none => rw [hd] at hu; cases hu
  | some d =>
    rw [hd] at hu
    cases d <;> first | (cases hu; done) | skip
    rename_i fs
    obtain ⟨l⟩ := fs
    simp only at hu
    cases l with
    | nil => simp at hu
    | cons f l =>
      cases l with
      | nil => simp at hu
      | cons g l =>
        cases l with
        | nil =>
          simp at hu
          exact ⟨f, g, rfl, by simpa using hu.1.1, hu.1.2.1, hu.1.2.2, by simpa using hu.2.1, hu.2.2.1, hu.2.2.2⟩
        | cons x l => simp at hu
theorem part_int {w : World} {cs : Array Value} {i : Nat} {v : Value} (h : P.underlying 3 = some (.int k)) (hc : cs[i]? = some v) : (part 3 cs i).run P w = .ok v w := by
  simp [part, isAgg, und_run h, hc]
theorem equal_two {w : World} [h : Two P T k] (p q : Int × Int) : (Op.equal T (two k p) (two k q)).run P w = .ok (decide (q = p)) w := by
  obtain ⟨f, g, h1, h2, h3, h4, h5, h6, h7⟩ := two_fields (P := P) (T := T) (k := k)
  have hf : P.fieldsOf T = #[f, g] := by simp [Program.fieldsOf, h1]
  unfold Op.equal Op.maxDepth
  rw [show (10000 : Nat) = 9999 + 1 from rfl, run_equalIn_struct w 9999 T _ _ (by rw [hf]; exact h1) h.held, hf]
  have e : ∀ (a b : Int), (Op.equalIn 9999 3 (.int k a) (.int k b)).run P w = .ok (a == b) w := fun a b => run_equalIn_int w 9998 3 k k a b h.int
  simp only [Op.eqFields, h2, h3, h4, h5, h6, h7, ne_eq, not_false_eq_true, if_true, Sem.run_bind]
  rw [part_int h.int (v := .int k p.1) rfl, Result.andThen_ok, part_int h.int (v := .int k q.1) rfl, Result.andThen_ok, e, Result.andThen_ok]
  by_cases e1 : p.1 = q.1
  · simp only [e1, beq_self_eq_true, Bool.not_true, Bool.false_eq_true, if_false, Sem.run_bind]
    rw [part_int h.int (v := .int k p.2) rfl, Result.andThen_ok, part_int h.int (v := .int k q.2) rfl, Result.andThen_ok, e, Result.andThen_ok]
    by_cases e2 : p.2 = q.2
    · have : q = p := Prod.ext e1.symm e2.symm
      simp [e2, this]
    · have : q ≠ p := fun h => e2 (by rw [h])
      simp [e2, this]
  · have : q ≠ p := fun h => e1 (by rw [h])
    simp [e1, this]

theorem find_two {w : World} [h : Two P T k] (a : Int × Int) : ∀ (l : List ((Int × Int) × Value × Nat)) (i : Nat), (Instr.findAsking T (two k a) (l.map fun x => ⟨two k x.1, x.2.1, x.2.2⟩) i).run P w =
    .ok (((l.zipIdx i).find? (fun x => decide (x.1.1 = a))).map (fun x => (x.2, x.1.2.1))) w := by
  intro l
  induction l with
  | nil => intro i; simp [Instr.findAsking]
  | cons x r ih =>
    intro i
    simp only [List.map_cons, Instr.findAsking, Sem.run_bind, equal_two, Result.andThen_ok, List.zipIdx_cons, List.find?_cons]
    by_cases e : x.1 = a
    · simp [e]
    · simp only [e, decide_false, Bool.false_eq_true, if_false]
      exact ih (i + 1)

theorem keyLaw_two [h : Two P T k] : KeyLaw P T (two k) where
  check := fun e a w => by
    obtain ⟨f, g, h1, h2, h3, h4, h5, h6, h7⟩ := two_fields (P := P) (T := T) (k := k)
    have hc : ∀ b : Int, (Instr.checkKey e 9999 3 (.int k b)).run P w = .ok () w := fun b => by
      rw [show (9999 : Nat) = 9998 + 1 from rfl, Instr.checkKey]; simp only [Sem.run_bind, und_run h.int, Result.andThen_ok]; simp
    rw [show (10000 : Nat) = 9999 + 1 from rfl, Instr.checkKey]
    simp only [Sem.run_bind, und_run h1, Result.andThen_ok]
    rw [← Array.forIn_toList]
    simp only [List.forIn_cons, List.forIn_nil, h2, h3, h4, h5, h6, h7, ne_eq, not_false_eq_true, if_true, Sem.run_bind]
    rw [part_int h.int (v := .int k a.1) rfl, Result.andThen_ok, hc, Result.andThen_ok]
    simp only [Sem.run_pure, Result.andThen_ok, Sem.run_bind]
    rw [part_int h.int (v := .int k a.2) rfl, Result.andThen_ok, hc, Result.andThen_ok]
    simp
  find := fun a l w => by
    obtain ⟨f, g, h1, _⟩ := two_fields (P := P) (T := T) (k := k)
    have hf := find_two (P := P) (T := T) (w := w) a l 0
    simp only [Instr.findKey, Sem.run_bind, und_run h1, Result.andThen_ok]
    cases l with
    | nil => simp [Instr.findNow]
    | cons x r =>
      have : Instr.findNow (.struct #[f, g]) (two k a) ((x :: r).map fun x => ⟨two k x.1, x.2.1, x.2.2⟩) 0 = none := by simp [Instr.findNow, Instr.sameNow]
      rw [this]
      exact hf
  same := fun a => by rw [show (10000 : Nat) = 9999 + 1 from rfl]; simp [Instr.sameBits]
end

/-! ### An entry: made or found, then stored into -/
section
variable {κ ν : Type} [DecidableEq κ] {enc : κ → Value} {encV : ν → Value} {m : List (κ × ν)} {es : List MapEntry} {clk : Nat} {P : Program} {kt : TypeId}

/-- The entry of key k bears this stamp. -/
def Stamp (m : List (κ × ν)) (es : List MapEntry) (k : κ) (st : Nat) : Prop := ∃ (j : Nat) (p : κ × ν) (e : MapEntry), m[j]? = some p ∧ p.1 = k ∧ es[j]? = some e ∧ e.born = st

theorem aset_same {k : κ} {v : ν} (hn : (m.map (·.1)).Nodup) (hg : aget m k = some v) : aset m k v = m := by
  have hc : (m.map (·.1)).contains k = true := by
    simp only [aget, Option.map_eq_some_iff] at hg
    obtain ⟨p, h1, h2⟩ := hg
    have := List.mem_of_find?_eq_some h1
    have h3 := List.find?_some h1
    exact List.contains_iff_mem.2 (List.mem_map.2 ⟨p, this, by simpa using h3⟩)
  unfold aset
  rw [hc, if_pos rfl]
  clear hc
  induction m with
  | nil => rfl
  | cons p r ih =>
    simp only [List.map_cons, List.nodup_cons] at hn
    simp only [aget, List.find?_cons] at hg
    by_cases e : p.1 = k
    · simp only [e, decide_true, Option.map_some, Option.some.injEq] at hg
      simp only [List.map_cons, e, if_true]
      have h1 : (k, v) = p := by rw [← e, ← hg]
      rw [h1, List.map_congr_left (g := id)]
      · simp
      · intro y hy
        have : y.1 ≠ k := fun he => hn.1 (by rw [e, ← he]; exact List.mem_map.2 ⟨y, hy, rfl⟩)
        simp [this]
    · simp only [e, decide_false] at hg
      simp only [List.map_cons, e, if_false]
      rw [ih hn.2 hg]

theorem aset_get (k : κ) (v : ν) : aget (aset m k v) k = some v := by
  unfold aset
  split
  · rename_i h
    obtain ⟨p, h1, h2⟩ := List.mem_map.1 (List.contains_iff_mem.1 h)
    clear h
    induction m with
    | nil => cases h1
    | cons q r ih =>
      simp only [aget, List.map_cons, List.find?_cons]
      by_cases e : q.1 = k
      · simp [e]
      · simp only [e, if_false, decide_false]
        rcases List.mem_cons.1 h1 with h3 | h3
        · subst h3; exact absurd h2 e
        · have := ih h3; simpa [aget] using this
  · rename_i h
    have hn : ∀ p, p ∈ m → p.1 ≠ k := fun p hp e => h (List.contains_iff_mem.2 (List.mem_map.2 ⟨p, hp, e⟩))
    clear h
    induction m with
    | nil => simp [aget]
    | cons q r ih =>
      simp only [aget, List.cons_append, List.find?_cons]
      have := hn q (by simp)
      simp only [this, decide_false]
      have := ih (fun p hp => hn p (by simp [hp]))
      simpa [aget] using this

theorem entry_run {T e b : Nat} {z : ν} [hT : MapOf P T kt e] (hz : ∀ w, (zeroValue e).run P w = .ok (encV z) w) (hk : KeyLaw P kt enc) (hm : MapOK enc encV m es clk) {w : World} {H : Heap} (hh : Holds H w) (hp : (b, HO.map es clk) ∈ H) (k : κ) :
    ∃ es' clk' st, MapOK enc encV (aset m k ((aget m k).getD z)) es' clk' ∧ Stamp (aset m k ((aget m k).getD z)) es' k st ∧
      (Instr.mapEntry T (.map (some b)) (enc k)).run P w = .ok (.tuple #[encV ((aget m k).getD z), i64 (st : Nat)]) (setBlk w b (HO.map es' clk').obj') := by
  obtain ⟨l, h1, h2, h3⟩ := hm.triples
  have hg := getMap_run (P := P) hh hp
  have hw := obj_of hh hp
  have hset : ∀ es' : Array MapEntry, ∀ c', (setObj b (.map es' c')).run P w = .ok () (setBlk w b (.map es' c')) := fun es' c' => by
    simp [setObj, Sem.run, hw, setBlk]
  have hf := hk.find k l w
  rw [← h1] at hf
  have hzf := zip_find (encV := encV) l m 0 k h2 h3
  unfold Instr.mapEntry
  simp only [Sem.run_bind, und_run hT.und, Result.andThen_ok, hg, hk.check]
  rw [hf]
  cases hr : (l.zipIdx.find? (fun x => decide (x.1.1 = k))).map (fun x => (x.2, x.1.2.1)) with
  | none =>
    rw [hr] at hzf
    have hnone : aget m k = none := by simpa using hzf.symm
    have hc : (m.map (·.1)).contains k = false := by
      simp only [aget, Option.map_eq_none_iff, List.find?_eq_none, decide_eq_true_eq] at hnone
      cases hc : (m.map (·.1)).contains k with
      | false => rfl
      | true =>
        obtain ⟨p, hp1, hp2⟩ := List.mem_map.1 (List.contains_iff_mem.1 hc)
        exact absurd hp2 (hnone p hp1)
    have ea : aset m k z = m ++ [(k, z)] := by unfold aset; rw [hc]; rfl
    have hl := hm.len
    refine ⟨es ++ [⟨enc k, encV z, clk⟩], clk + 1, clk, by rw [hnone]; exact hm.push k z hc, ?_, ?_⟩
    · rw [hnone]
      refine ⟨m.length, (k, z), ⟨enc k, encV z, clk⟩, ?_, rfl, ?_, rfl⟩
      · simp [ea]
      · rw [← hl]; simp
    · rw [hnone]
      simp only [Result.andThen_ok, Sem.run_bind, hz, hset]
      simp [HO.obj', goInt]
  | some r =>
    obtain ⟨j, u⟩ := r
    rw [hr] at hzf
    obtain ⟨v, hv, hvu⟩ : ∃ v, aget m k = some v ∧ encV v = u := by
      cases hu : aget m k with
      | none => rw [hu] at hzf; simp at hzf
      | some v => rw [hu] at hzf; simp at hzf; exact ⟨v, rfl, hzf.symm⟩
    obtain ⟨_, _, ⟨p, g3, g4⟩, g5⟩ := zip_set l m 0 k v j u h2 hm.nodup hr
    simp only [Nat.sub_zero] at g3 g5
    have hes : ∃ x, es[j]? = some x ∧ x.key = enc k := by
      have := congrArg (fun l => l[j]?) hm.keys
      simp only [List.getElem?_map, g3, Option.map_some, g4] at this
      cases hx : es[j]? with
      | none => rw [hx] at this; simp at this
      | some x => rw [hx] at this; simp at this; exact ⟨x, rfl, this⟩
    obtain ⟨x, hx, hxk⟩ := hes
    have hsame : es.modify j (fun e => { e with key := enc k }) = es := by
      apply List.ext_getElem?
      intro i
      rw [List.getElem?_modify]
      by_cases e : j = i
      · subst e; rw [hx]; simp [← hxk]
      · simp [e]
    have hs : (Instr.keyThatStays (enc k) (enc k)).run P w = .ok (enc k) w := by simp [Instr.keyThatStays, hk.same]
    have hkey : ((es.toArray[j]?).map (·.key)).getD (enc k) = enc k := by simp [hx, hxk]
    refine ⟨es, clk, x.born, by rw [hv]; rw [show (some v).getD z = v from rfl, aset_same hm.nodup hv]; exact hm, ?_, ?_⟩
    · rw [hv, show (some v).getD z = v from rfl, aset_same hm.nodup hv]
      exact ⟨j, p, x, g3, g4, hx, rfl⟩
    · simp only [Result.andThen_ok, hkey, Sem.run_bind, hs, hset]
      have hmod : (es.toArray.modify j fun e => { e with key := enc k }) = es.toArray := by
        apply Array.ext'
        simp [hsame]
      simp [HO.obj', goInt, hmod, hx, hv, hvu]

omit [DecidableEq κ] in
theorem Stamp.find (hm : MapOK enc encV m es clk) {k : κ} {st : Nat} (hs : Stamp m es k st) : ∃ j p, m[j]? = some p ∧ p.1 = k ∧ es.toArray.findIdx? (fun e => (e.born : Int) == (st : Int)) = some j := by
  obtain ⟨j, p, e, h1, h2, h3, h4⟩ := hs
  refine ⟨j, p, h1, h2, ?_⟩
  rw [List.findIdx?_toArray]
  have hj := (List.getElem?_eq_some_iff.1 h3).1
  have he := (List.getElem?_eq_some_iff.1 h3).2
  rw [List.findIdx?_eq_some_iff_getElem]
  refine ⟨hj, by rw [he]; simp [h4], fun i hi => ?_⟩
  have := List.pairwise_iff_getElem.1 hm.born i j (by omega) hj hi
  rw [he, h4] at this
  simp
  omega

theorem entryStore_run {T b st : Nat} (hm : MapOK enc encV m es clk) {k : κ} (hs : Stamp m es k st) {w : World} {H : Heap} (hh : Holds H w) (hp : (b, HO.map es clk) ∈ H) (v : ν) :
    ∃ es', MapOK enc encV (aset m k v) es' clk ∧ (Instr.entryStore T (.map (some b)) (i64 st) (encV v)).run P w = .ok () (setBlk w b (HO.map es' clk).obj') := by
  obtain ⟨j, p, g3, g4, hf⟩ := hs.find hm
  have hg := getMap_run (P := P) hh hp
  have hw := obj_of hh hp
  have hset : ∀ es' : Array MapEntry, ∀ c', (setObj b (.map es' c')).run P w = .ok () (setBlk w b (.map es' c')) := fun es' c' => by
    simp [setObj, Sem.run, hw, setBlk]
  have hc : (m.map (·.1)).contains k = true := List.contains_iff_mem.2 (List.mem_map.2 ⟨p, List.mem_of_getElem? g3, g4⟩)
  have ha : aset m k v = m.modify j (fun p => (p.1, v)) := by
    unfold aset; rw [hc, if_pos rfl]
    apply List.ext_getElem?
    intro i
    rw [List.getElem?_map, List.getElem?_modify]
    by_cases e : j = i
    · subst e; rw [g3]; simp [g4]
    · cases hi : m[i]? with
      | none => simp [e]
      | some q =>
        have : q.1 ≠ k := fun hq => by
          have h1 := (List.getElem?_eq_some_iff.1 g3)
          have h2 := (List.getElem?_eq_some_iff.1 hi)
          obtain ⟨a1, a2⟩ := h1
          obtain ⟨b1, b2⟩ := h2
          have hnd := hm.nodup
          rcases Nat.lt_or_gt_of_ne e with hlt | hlt
          · exact List.pairwise_iff_getElem.1 hnd j i (by simpa using a1) (by simpa using b1) hlt (by simp [a2, b2, g4, hq])
          · exact List.pairwise_iff_getElem.1 hnd i j (by simpa using b1) (by simpa using a1) hlt (by simp [a2, b2, g4, hq])
        simp [e, this]
  have hes : ∃ x, es[j]? = some x ∧ x.key = enc k := by
    have := congrArg (fun l => l[j]?) hm.keys
    simp only [List.getElem?_map, g3, Option.map_some, g4] at this
    cases hx : es[j]? with
    | none => rw [hx] at this; simp at this
    | some x => rw [hx] at this; simp at this; exact ⟨x, rfl, this⟩
  obtain ⟨x, hx, hxk⟩ := hes
  have hsame : es.modify j (fun e => { e with val := encV v }) = es.modify j (fun e => { e with key := enc k, val := encV v }) := by
    apply List.ext_getElem?
    intro i
    rw [List.getElem?_modify, List.getElem?_modify]
    by_cases e : j = i
    · subst e; rw [hx]; simp [← hxk]
    · simp [e]
  refine ⟨es.modify j (fun e => { e with val := encV v }), by rw [ha, hsame]; exact hm.modify j k v g3 g4, ?_⟩
  unfold Instr.entryStore
  simp only [Sem.run_bind, hg, Result.andThen_ok]
  have hi : (asInt (i64 (st : Nat))).run P w = .ok (st : Int) w := by simp [asInt, asIntOf]
  simp only [hi, Result.andThen_ok, hf, hset]
  simp [HO.obj']

variable {S : Slots} {H : Hs} {o : Oper} {c : Cx} {Q : Exit → Act → World → Prop} {K : Act → World → Prop}
theorem J.mapEntry {T e b d : Nat} {x y : Operand} {k : κ} {zv : Value} [hT : MapOf P T kt e] [hzv : Zero P e zv] (i : Nat) (z : ν) (hz : zv = encV z) (hk : KeyLaw P kt enc) (hm : MapOK enc encV m es clk) (ho : o.op = .mapEntry T x y) (hx : ev S x = some (.map (some b))) (hy : ev S y = some (enc k))
    (hp : H[i]? = some [(b, .map es clk)]) (hd : o.dst = some d) (hn : Nat.blt d c.n = true) {H' : List MapEntry → Nat → Hs} (hH : ∀ es' clk', H.set i [(b, .map es' clk')] = H' es' clk')
    (h : ∀ es' clk' st, MapOK enc encV (aset m k ((aget m k).getD z)) es' clk' → Stamp (aset m k ((aget m k).getD z)) es' k st → J c K ((d, .tuple #[encV ((aget m k).getD z), i64 (st : Nat)]) :: S) (H' es' clk')) : J c (OW P o K Q) S H :=
  fun a w hf hs => by
    obtain ⟨es', clk', st, h1, h2, h3⟩ := entry_run (P := P) (kt := kt) (T := T) (fun w => by rw [← hz]; exact zero_run (P := P) (T := e)) hk hm hs.has.1 (mem_one hp) k
    show o.upon P a K Q ((execOp a.eval o).run P w)
    have : (execOp a.eval o).run P w = .ok (.value (.tuple #[encV ((aget m k).getD z), i64 (st : Nat)])) (setBlk w b (HO.map es' clk').obj') := by unfold execOp; rw [ho]; simp [hf.ev hx, hf.ev hy, h3]
    rw [this, Oper.upon_value, hd]
    obtain ⟨A, B, g1, g2⟩ := flat_set hp
    refine h es' clk' st h1 h2 _ _ (hf.put hn _) ?_
    rw [← hH, g2]; rw [g1] at hs
    exact hs.turn _
theorem J.entryStore {T b st : Nat} {x y z : Operand} {k : κ} {v : ν} (i : Nat) (hm : MapOK enc encV m es clk) (hst : Stamp m es k st) (ho : o.op = .entryStore T x y z) (hx : ev S x = some (.map (some b))) (hy : ev S y = some (i64 (st : Nat))) (hz : ev S z = some (encV v))
    (hp : H[i]? = some [(b, .map es clk)]) (hd : o.dst = none) {H' : List MapEntry → Nat → Hs} (hH : ∀ es' clk', H.set i [(b, .map es' clk')] = H' es' clk') (h : ∀ es', MapOK enc encV (aset m k v) es' clk → J c K S (H' es' clk)) : J c (OW P o K Q) S H :=
  fun a w hf hs => by
    obtain ⟨es', h1, h2⟩ := entryStore_run (P := P) (T := T) hm hst hs.has.1 (mem_one hp) v
    show o.upon P a K Q ((execOp a.eval o).run P w)
    have : (execOp a.eval o).run P w = .ok .skip (setBlk w b (HO.map es' clk).obj') := by unfold execOp; rw [ho]; simp [hf.ev hx, hf.ev hy, hf.ev hz, h2]
    rw [this, Oper.upon_skip, hd]
    obtain ⟨A, B, g1, g2⟩ := flat_set hp
    refine h es' h1 _ _ hf ?_
    rw [← hH, g2]; rw [g1] at hs
    exact hs.turn _
end

section
variable {P : Program} {n : Nat} {S : Slots} {H : Hs} {o : Oper}
theorem Gives.min3 {x y z : Operand} {ats : Array TypeId} {p q r : Int} (ho : o.op = .call { callee := .builtin .min, args := #[x, y, z], argTypes := ats }) (hx : ev S x = some (i64 p)) (hy : ev S y = some (i64 q)) (hz : ev S z = some (i64 r)) : Gives P n o (i64 (min (min p q) r)) S H := fun a w hf _ => by
  unfold execOp; rw [ho]
  have e : ∀ a b : Int, (if b < a then b else a) = min a b := fun a b => by omega
  simp [resolve, invoke, builtin, Builtin.min_, Builtin.min2, hf.ev hx, hf.ev hy, hf.ev hz, List.foldlM, e]
theorem Gives.addU {T U : TypeId} {x y : Operand} {p q : Int} (ho : o.op = .binOp .add T x y U) (hx : ev S x = some (.int .u64 p)) (hy : ev S y = some (.int .u64 q)) : Gives P n o (.int .u64 (IntKind.u64.wrap (p + q))) S H := Gives.add ho hx hy
end
end Go.Proofs.YE
namespace Go.Proofs.YE
open Go

/-! ### A walk whose activation has deferred calls -/
def DX (D : List Deferred) (X : Act → World → Prop) : Act → World → Prop := fun a w => a.defers = [] ∧ X { a with defers := D } w
def DQ (D : List Deferred) (Q : Exit → Act → World → Prop) : Exit → Act → World → Prop := fun e a w => Q e { a with defers := D } w

section
variable {P : Program} {Q : Exit → Act → World → Prop} {c : Cx} {S : Slots} {H : Hs} {D : List Deferred} {X : Act → World → Prop} {ops : Array Oper} {rest : List Oper} {o : Oper} {K : Act → World → Prop}

theorem J.seqD {x y : Code} (h : J c (DX D (CW P x (Exit.then (CW P y Q) Q))) S H) : J c (DX D (CW P (Code.seq x y) Q)) S H :=
  fun a w hf hs => ⟨hf.defers, wp_seq (h a w hf hs).2⟩
theorem J.skipD (h : J c (DX D (XW Q .normal)) S H) : J c (DX D (CW P Code.skip Q)) S H := fun a w hf hs => ⟨hf.defers, wp_skip (h a w hf hs).2⟩
theorem J.regionD {id : Nat} {ops : Array Oper} (h : J c (DX D (LW P ops Q ops.toList)) S H) : J c (DX D (CW P (Code.region id ops false) Q)) S H :=
  fun a w hf hs => ⟨hf.defers, wp_region_list (h a w hf hs).2⟩
theorem J.blockD {id : Nat} {x : Code} (h : J c (DX D (CW P x (Exit.inBlock id Q))) S H) : J c (DX D (CW P (Code.block id x) Q)) S H :=
  fun a w hf hs => ⟨hf.defers, wp_block (h a w hf hs).2⟩
theorem J.exitD {id : Nat} (h : J c (DX D (XW Q (.exit id))) S H) : J c (DX D (CW P (Code.exit id) Q)) S H := fun a w hf hs => ⟨hf.defers, wp_exit (h a w hf hs).2⟩
theorem J.retD (h : J c (DX D (XW Q .ret)) S H) : J c (DX D (CW P Code.ret Q)) S H := fun a w hf hs => ⟨hf.defers, wp_ret (h a w hf hs).2⟩
theorem J.thenND (h : J c (DX D X) S H) : J c (DX D (XW (Exit.then X Q) .normal)) S H := h
theorem J.thenXD {i : Nat} (h : J c (DX D (XW Q (.exit i))) S H) : J c (DX D (XW (Exit.then X Q) (.exit i))) S H := h
theorem J.thenRD (h : J c (DX D (XW Q .ret)) S H) : J c (DX D (XW (Exit.then X Q) .ret)) S H := h
theorem J.inND {i : Nat} (h : J c (DX D (XW Q .normal)) S H) : J c (DX D (XW (Exit.inBlock i Q) .normal)) S H := h
theorem J.inRD {i : Nat} (h : J c (DX D (XW Q .ret)) S H) : J c (DX D (XW (Exit.inBlock i Q) .ret)) S H := h
theorem J.inXD {i j : Nat} (hij : Nat.beq j i = true) (h : J c (DX D (XW Q .normal)) S H) : J c (DX D (XW (Exit.inBlock i Q) (.exit j))) S H := fun a w hf hs => by
  have : j = i := Nat.eq_of_beq_eq_true hij
  refine ⟨hf.defers, ?_⟩
  show Exit.inBlock i Q (.exit j) _ w
  simp only [Exit.inBlock, this, if_true]; exact (h a w hf hs).2
theorem J.inOD {i j : Nat} (hij : Nat.beq j i = false) (h : J c (DX D (XW Q (.exit j))) S H) : J c (DX D (XW (Exit.inBlock i Q) (.exit j))) S H := fun a w hf hs => by
  have : j ≠ i := Nat.ne_of_beq_eq_false hij
  refine ⟨hf.defers, ?_⟩
  show Exit.inBlock i Q (.exit j) _ w
  simp only [Exit.inBlock, this, if_false]; exact (h a w hf hs).2
theorem J.nilD {ops : Array Oper} (h : J c (DX D (XW Q .normal)) S H) : J c (DX D (LW P ops Q [])) S H := h
theorem eval_defers {a : Act} {D : List Deferred} : ({ a with defers := D } : Act).eval = a.eval := by
  funext x; cases x <;> rfl
theorem J.condD {x : Operand} {t : Bool} {thn els : Code} (hx : ev S x = some (.bool t)) (ht : t = true → J c (DX D (CW P thn Q)) S H) (hf : t = false → J c (DX D (CW P els Q)) S H) :
    J c (DX D (CW P (Code.cond x thn els) Q)) S H := fun a w hfr hs => by
  refine ⟨hfr.defers, wp_cond (t := t) (by rw [eval_defers]; exact hfr.ev hx) ?_⟩
  cases t with
  | true => exact (ht rfl a w hfr hs).2
  | false => exact (hf rfl a w hfr hs).2
theorem J.condTD {x : Operand} {thn els : Code} (hx : ev S x = some (.bool true)) (ht : J c (DX D (CW P thn Q)) S H) : J c (DX D (CW P (Code.cond x thn els) Q)) S H := J.condD hx (fun _ => ht) (fun h => by cases h)
theorem J.condFD {x : Operand} {thn els : Code} (hx : ev S x = some (.bool false)) (ht : J c (DX D (CW P els Q)) S H) : J c (DX D (CW P (Code.cond x thn els) Q)) S H := J.condD hx (fun h => by cases h) (fun _ => ht)
theorem J.cond1D {x : Operand} {t : Bool} {thn els : Code} (hx : ev S x = some (.bool t)) (ht : t = true) (h : J c (DX D (CW P thn Q)) S H) : J c (DX D (CW P (Code.cond x thn els) Q)) S H :=
  J.condD hx (fun _ => h) (fun h' => by rw [ht] at h'; cases h')
theorem J.cond0D {x : Operand} {t : Bool} {thn els : Code} (hx : ev S x = some (.bool t)) (ht : t = false) (h : J c (DX D (CW P els Q)) S H) : J c (DX D (CW P (Code.cond x thn els) Q)) S H :=
  J.condD hx (fun h' => by rw [ht] at h'; cases h') (fun _ => h)

theorem put_defers (a : Act) (D : List Deferred) (d : Option Tmp) (v : Value) : ({ a with defers := D } : Act).put d v = { a.put d v with defers := D } := by cases d <;> rfl
theorem put_defers' {a : Act} {d : Option Tmp} {v : Value} : (a.put d v).defers = a.defers := by cases d <;> rfl
theorem LetsOut.ofD (h : LetsOut (DQ D Q)) : LetsOut Q := let ⟨a, w, h⟩ := h; ⟨_, w, h⟩
theorem upon_defers {a : Act} (r : Result Next) (h : o.upon P a (DX D K) (DQ D Q) r) : o.upon P { a with defers := D } K Q r := by
  cases r with
  | halt x w =>
    cases x <;> first | exact h | exact h.elim
  | ok x w =>
    cases x with
    | value v => show K _ w; rw [put_defers]; exact h.2
    | skip => show K _ w; rw [put_defers]; exact h.2
    | defer d => have := h.1; rw [put_defers'] at this; cases this
    | enter f args =>
      refine Calls.mono h ?_
      intro e w' he
      cases e with
      | returned v => show K _ w'; rw [put_defers]; exact he.2
      | panicked ch => exact he
      | outgrown => exact LetsOut.ofD he
    | row s args =>
      refine Rows.mono h ?_
      intro v w' he
      show K _ w'; rw [put_defers]; exact he.2
    | _ => exact h.elim
theorem J.opD (hg : o.guard = none) (h : J c (OW P o (DX D (LW P ops Q rest)) (DQ D Q)) S H) : J c (DX D (LW P ops Q (o :: rest))) S H :=
  fun a w hf hs => by
    refine ⟨hf.defers, ?_⟩
    show wpList P ops Q _ _ w
    unfold wpList
    rw [if_pos (by simp [Region.wanted, hg])]
    refine .inl ?_
    show o.upon P _ _ Q ((execOp _ o).run P w)
    rw [eval_defers]
    exact upon_defers _ (h a w hf hs)
theorem J.wantD {j dj : Nat} {t : Bool} (hg : o.guard = some (j, t)) (hd : (ops[j]?).bind (·.dst) = some dj) (hs : S.get dj = some (.bool t))
    (h : J c (OW P o (DX D (LW P ops Q rest)) (DQ D Q)) S H) : J c (DX D (LW P ops Q (o :: rest))) S H :=
  fun a w hf hw => by
    refine ⟨hf.defers, ?_⟩
    show wpList P ops Q _ _ w
    unfold wpList
    rw [if_pos (by simp [Region.wanted, hg, yielded_of hf hd hs])]
    refine .inl ?_
    show o.upon P _ _ Q ((execOp _ o).run P w)
    rw [eval_defers]
    exact upon_defers _ (h a w hf hw)
theorem J.notD {j dj d : Nat} {t u : Bool} (hg : o.guard = some (j, t)) (hd : (ops[j]?).bind (·.dst) = some dj) (hs : S.get dj = some (.bool u)) (hn : (u == t) = false)
    (hdst : o.dst = some d) (hdn : Nat.blt d c.n = true) (h : J c (DX D (LW P ops Q rest)) ((d, undef) :: S) H) : J c (DX D (LW P ops Q (o :: rest))) S H :=
  fun a w hf hw => by
    refine ⟨hf.defers, ?_⟩
    show wpList P ops Q _ _ w
    unfold wpList
    rw [if_neg (by simp only [Region.wanted, hg, yielded_of hf hd hs]; simpa using hn), hdst]
    rw [put_defers]
    exact (h _ w (hf.put hdn undef) hw).2
theorem J.notUD {j dj d : Nat} {t : Bool} (hg : o.guard = some (j, t)) (hd : (ops[j]?).bind (·.dst) = some dj) (hs : S.get dj = some undef)
    (hdst : o.dst = some d) (hdn : Nat.blt d c.n = true) (h : J c (DX D (LW P ops Q rest)) ((d, undef) :: S) H) : J c (DX D (LW P ops Q (o :: rest))) S H :=
  fun a w hf hw => by
    refine ⟨hf.defers, ?_⟩
    show wpList P ops Q _ _ w
    unfold wpList
    rw [if_neg (by simp [Region.wanted, hg, yielded_undef hf hd hs]), hdst]
    rw [put_defers]
    exact (h _ w (hf.put hdn undef) hw).2
theorem J.guardD (dj : Nat) {u : Bool} (hs : S.get dj = some (.bool u)) (h1 : u = true → J c X ((dj, .bool true) :: S) H) (h2 : u = false → J c X ((dj, .bool false) :: S) H) : J c X S H := J.guardA dj hs h1 h2

/-- A 'defer' statement: the first one. -/
theorem J.deferF {cl : Call} {dst : Option Nat} {ty : TypeId} {pos : String} {after : Array Edge} {g : Option (Nat × Bool)} {d : Deferred} (hr : ∀ a w, Fr a c.n S → (resolve a.eval cl ty).run P w = .ok d w) (hg : g = none) (hd : dst = none)
    (h : J c (DX [d] (LW P ops Q rest)) S H) : J c (LW P ops Q (⟨dst, .defer cl, ty, pos, after, g⟩ :: rest)) S H :=
  fun a w hf hs => by
    show wpList P ops Q _ a w
    unfold wpList
    rw [if_pos (by simp [Region.wanted, hg])]
    refine .inl ?_
    show Oper.upon P _ a _ Q ((execOp a.eval _).run P w)
    have : (execOp a.eval ⟨dst, .defer cl, ty, pos, after, g⟩).run P w = .ok (.defer d) w := by unfold execOp; simp [hr a w hf]
    rw [this, Oper.upon_defer, hd, hf.defers]
    exact (h a w hf hs).2

/-- A contract of a function that is deferred. -/
def SpD (P : Program) (f : FuncId) (args : Array Value) (H : Hs) (Post : Value → Hs → Prop) : Prop :=
  ∀ w u, Has w H.flatten → CallsD P f args u w (fun e u' w' => u' = u ∧ Ret w (keys H.flatten) Post e w')
theorem SpD.intro {f : FuncId} {fn : Func} {body : Code} {args : Array Value} {Post : Value → Hs → Prop} (hf : P.funcs[f]? = some fn) (hb : fn.body = some body)
    (hn : Nat.ble args.size fn.ntmps = true)
    {S : Slots} (hS : slotsFrom 0 args.toList = S)
    (h : ∀ w K0, J ⟨w, K0, fn.ntmps⟩ (CW P body (bodyPost P fn (Ret w K0 Post))) S H) : SpD P f args H Post :=
  fun w u hw => callsD_of_wp hf hb (h w (keys H.flatten) _ w ⟨by have := Nat.le_of_ble_eq_true hn; simp; omega, rfl, fun t v ht => by
    rw [← hS] at ht
    obtain ⟨_, h2⟩ := slotsFrom_get _ _ _ _ ht
    simp only [Nat.sub_zero] at h2
    have hlt : t < args.size := by
      have := List.getElem?_eq_some_iff.1 h2
      simpa using this.1
    rw [Array.getD_eq_getD_getElem?, Array.getElem?_append_left hlt]
    rw [← Array.getElem?_toList, h2]; rfl⟩ (St.start hw))

/-- A function with deferred calls. -/
theorem Sp.introD {f : FuncId} {fn : Func} {body : Code} {args : Array Value} {Post : Value → Hs → Prop} (hf : P.funcs[f]? = some fn) (hb : fn.body = some body)
    (hn : Nat.ble args.size fn.ntmps = true)
    {S : Slots} (hS : slotsFrom 0 args.toList = S)
    (h : ∀ w K0, J ⟨w, K0, fn.ntmps⟩ (CW P body (bodyPostD P fn (Ret w K0 Post))) S H) : Sp P f args H Post :=
  fun w hw => calls_of_wp_defers hf hb (h w (keys H.flatten) _ w ⟨by have := Nat.le_of_ble_eq_true hn; simp; omega, rfl, fun t v ht => by
    rw [← hS] at ht
    obtain ⟨_, h2⟩ := slotsFrom_get _ _ _ _ ht
    simp only [Nat.sub_zero] at h2
    have hlt : t < args.size := by
      have := List.getElem?_eq_some_iff.1 h2
      simpa using this.1
    rw [Array.getD_eq_getD_getElem?, Array.getElem?_append_left hlt]
    rw [← Array.getElem?_toList, h2]; rfl⟩ (St.start hw))

/-- The end: one deferred call of a named function runs. -/
theorem J.doneD {fn : Func} {f : FuncId} {gn : Func} {args : Array Value} {H1 F : Hs} {Post1 Post : Value → Hs → Prop} {v : Value} {e : Exit} (he : e = .ret ∨ e = .normal) (spec : SpD P f args H1 Post1)
    (hf : P.funcs[f]? = some gn) (hb : gn.body.isNone = false) (hn : (gn.name == "runtime.NumGoroutine") = false)
    (hr : ∀ a w, Fr a c.n S → (results fn a.tmps).run P w = .ok v w) (hp : ∀ u H', Post1 u H' → Post v (H' ++ F)) :
    J c (DX [{ target := .fn (.func f) #[], args := args }] (XW (bodyPostD P fn (Ret c.w0 c.K0 Post)) e)) S (H1 ++ F) :=
  fun a w hfr hs => by
    refine ⟨hfr.defers, ?_⟩
    rw [List.flatten_append] at hs
    have hL : Leaves P fn a.tmps (Ret c.w0 c.K0 Post) [{ target := .fn (.func f) #[], args := args }] .returning w := by
      have hi : (invoke (.fn (.func f) #[]) args).run P w = .ok (.enter f args) w := by
        simp [invoke, callFunc_run hf hb hn]
      refine leaves_cons (by simp) hi ?_
      refine (spec w .returning (hs.has.sub (List.sublist_append_left _ _))).mono ?_
      rintro e' u' w' ⟨rfl, v', H', rfl, h1, h2⟩
      refine ⟨v, hr a w' hfr, v, H' ++ F, rfl, hp v' H' h1, ?_⟩
      rw [List.flatten_append]
      exact hs.call h2
    rcases he with rfl | rfl <;> exact hL
end

/-! ### A range over a function -/
def Fw (r : Option Nat) : Fence := { Fence.wide with round := r }
def CI (r : Option Nat) (P : Program) (x : Code) (Q : Exit → Act → World → Prop) : Act → World → Prop := fun a w => x.wpIn (Fw r) 0 P Q a w
def LI (r : Option Nat) (P : Program) (ops : Array Oper) (Q : Exit → Act → World → Prop) (l : List Oper) : Act → World → Prop := wpListIn (Fw r) 0 P ops Q l
def OI (r : Option Nat) (P : Program) (o : Oper) (K : Act → World → Prop) (Q : Exit → Act → World → Prop) : Act → World → Prop := fun a w => o.wpIn (Fw r) 0 P a w K Q
def notDefer : Op → Bool
  | .defer _ => false
  | _ => true
section
variable {P : Program} {Q : Exit → Act → World → Prop} {c : Cx} {S : Slots} {H : Hs} {X : Act → World → Prop} {ops : Array Oper} {rest : List Oper} {o : Oper} {K : Act → World → Prop} {r : Option Nat}
theorem J.ofCI {x : Code} (h : J c (CI none P x Q) S H) : J c (CW P x Q) S H := fun a w hf hs => wpIn_wide.1 (h a w hf hs)
theorem J.toCI {x : Code} (h : J c (CW P x Q) S H) : J c (CI none P x Q) S H := fun a w hf hs => wpIn_wide.2 (h a w hf hs)
theorem J.toCID {D : List Deferred} {x : Code} (h : J c (DX D (CW P x Q)) S H) : J c (DX D (CI none P x Q)) S H := fun a w hf hs => ⟨hf.defers, wpIn_wide.2 (h a w hf hs).2⟩
theorem J.seqI {x y : Code} (h : J c (CI r P x (Exit.then (CI r P y Q) Q)) S H) : J c (CI r P (Code.seq x y) Q) S H := fun a w hf hs => wpIn_seq (h a w hf hs)
theorem J.skipI (h : J c (XW Q .normal) S H) : J c (CI r P Code.skip Q) S H := fun a w hf hs => wpIn_skip (h a w hf hs)
theorem J.regionI {id : Nat} {ops : Array Oper} (h : J c (LI r P ops Q ops.toList) S H) : J c (CI r P (Code.region id ops false) Q) S H := fun a w hf hs => wpIn_region_list (h a w hf hs)
theorem J.blockI {id : Nat} {x : Code} (h : J c (CI r P x (Exit.inBlock id Q)) S H) : J c (CI r P (Code.block id x) Q) S H := fun a w hf hs => wpIn_block (h a w hf hs)
theorem J.nilI {ops : Array Oper} (h : J c (XW Q .normal) S H) : J c (LI r P ops Q []) S H := h
theorem callsFw {f : FuncId} {args : Array Value} {w : World} {R : Ending → World → Prop} (h : Calls P f args w R) : CallsIn (Fw r) 0 P f args w R := (callsIn_wide (n := 0)).2 h
theorem rowsFw {s : String} {args : Array Value} {w : World} {R : Value → World → Prop} (h : Rows P s args w R) : RowsIn (Fw r) 0 P s args w R :=
  fun c cs _ => let ⟨v, w', q, s⟩ := h c cs; ⟨v, w', q, stepsIn_wide.2 s⟩
theorem depthFw : (Fw r).depth.isSome = true → 1 ≤ 0 := fun h => by simp [Fw, Fence.wide] at h
theorem uponFw {a : Act} (res : Result Next) (h : o.upon P a K Q res) : o.uponIn (Fw r) 0 P a K Q res := by
  cases res with
  | halt x w => cases x <;> first | exact h | exact h.elim
  | ok x w =>
    cases x with
    | value v => exact h
    | skip => exact h
    | defer d => exact h
    | enter f args => exact ⟨depthFw, callsFw h⟩
    | row s args => exact ⟨depthFw, rowsFw h⟩
    | _ => exact h.elim
theorem J.opI (hg : o.guard = none) (hn : notDefer o.op = true) (h : J c (OW P o (LI r P ops Q rest) Q) S H) : J c (LI r P ops Q (o :: rest)) S H :=
  fun a w hf hs => by
    show wpListIn (Fw r) 0 P ops Q _ a w
    unfold wpListIn
    rw [if_pos (by simp [Region.wanted, hg])]
    refine ⟨fun _ _ => trivial, ?_⟩
    rw [Oper.semAt_eq _ _ _ (fun cl he => by rw [he] at hn; cases hn)]
    exact uponFw _ (h a w hf hs)
theorem J.opY (hg : o.guard = none) (h : J c (OI r P o (LI r P ops Q rest) Q) S H) : J c (LI r P ops Q (o :: rest)) S H :=
  fun a w hf hs => by
    show wpListIn (Fw r) 0 P ops Q _ a w
    unfold wpListIn
    rw [if_pos (by simp [Region.wanted, hg])]
    exact h a w hf hs

/-- A call of yield, from these blocks. -/
def RoundSp (P : Program) (l : Nat) (args : Array Value) (H : Hs) (R : Hs → Prop) : Prop :=
  ∀ w, Has w H.flatten → ∃ fn tmps assign body, (Instr.yield l args).run P w = .ok (.round l fn tmps assign body) w ∧
    RoundIn (Fw none) 0 P l fn tmps assign body w (fun e w' => e = .returned (.bool true) ∧ ∃ H', R H' ∧ St w (keys H.flatten) w' H'.flatten)

theorem J.yield {l : Nat} {t d : Nat} {xs : Array Operand} {ats : Array TypeId} {ty : TypeId} {pos : String} {after : Array Edge} {g : Option (Nat × Bool)} {args : List Value} {H1 F : Hs} {R : Hs → Prop} (spec : RoundSp P l args.toArray H1 R)
    (ht : S.get t = some (.func (.yield l) #[] #[])) (hargs : evs S xs.toList = some args) (hd : Nat.blt d c.n = true) (h : ∀ H1', R H1' → J c K ((d, .bool true) :: S) (H1' ++ F)) :
    J c (OI none P ⟨some d, .call { callee := .value (.tmp t), args := xs, argTypes := ats }, ty, pos, after, g⟩ K Q) S (H1 ++ F) :=
  fun a w hf hs => by
    refine ⟨fun _ _ => trivial, ?_⟩
    rw [List.flatten_append] at hs
    obtain ⟨fn, tmps, assign, body, h1, h2⟩ := spec w (hs.has.sub (List.sublist_append_left _ _))
    have ha : xs.map a.eval = args.toArray := by
      rw [← mapEv hf _ _ (evs_map _ _ hargs)]; apply Array.ext'; simp
    have hev : a.eval (.tmp t) = .func (.yield l) #[] #[] := hf.ev (x := .tmp t) ht
    have hrun : (execOp a.eval ⟨some d, .call { callee := .value (.tmp t), args := xs, argTypes := ats }, ty, pos, after, g⟩).run P w = .ok (.round l fn tmps assign body) w := by
      unfold execOp
      simp [resolve, hev, invoke, Deferred.ofValue, ha, h1]
    rw [Oper.semAt_eq _ _ _ (fun cl he => by cases he), hrun]
    refine ⟨depthFw, ?_⟩
    refine RoundIn.mono h2 ?_
    rintro e w' ⟨rfl, H', hR, h3⟩
    exact h H' hR _ w' (hf.put hd _) (by rw [List.flatten_append]; exact hs.call h3)

/-- A function that ranges over what it holds, for whatever yield does. -/
def SeqSp (P : Program) (gf : FuncId) (lb : Array Value) (Fs : Hs) {α : Type} (encs : α → List Value) (Ok Done : List α → Prop) : Prop :=
  ∀ (l : Nat) (I : List α → Hs → Prop), (∀ pre x H, I pre H → Ok (pre ++ [x]) → RoundSp P l (encs x).toArray H (I (pre ++ [x]))) →
    ∀ H0, I [] H0 → Sp P gf (#[.func (.yield l) #[] #[]] ++ lb) (H0 ++ Fs) (fun _ H' => ∃ xs H1, Done xs ∧ I xs H1 ∧ H' = H1 ++ Fs)

def RE (c : Cx) (R : Hs → Prop) (l : Nat) (rec : Loop) : Exit → Act → World → Prop
  | .normal, _, w => ∃ Hend, R Hend ∧ St c.w0 c.K0 w (Hend ++ [[(l, HO.obj (.loop { rec with state := .busy }))]]).flatten
  | _, _, _ => False
def BW (P : Program) (l : Nat) (body : Code) (Q : Exit → Act → World → Prop) : Act → World → Prop := fun a w => ∃ w₂, (Instr.beginRound l).run P w = .ok () w₂ ∧ body.wpIn (Fw (some l)) 0 P Q a w₂
theorem loop_obj {w : World} {H : Heap} {l : Nat} {rec : Loop} (hh : Holds H w) (hp : (l, HO.obj (.loop rec)) ∈ H) : w.heap[l]? = some (.loop rec) := hh l _ hp
theorem J.begin {l i : Nat} {rec : Loop} {body : Code} (hp : H[i]? = some [(l, HO.obj (.loop rec))]) (hst : rec.state = .ready) {H' : Hs} (hH : H.set i [(l, HO.obj (.loop { rec with state := .busy }))] = H')
    (h : J c (CI (some l) P body Q) S H') : J c (BW P l body Q) S H := fun a w hf hs => by
  refine ⟨_, run_beginRound (loop_obj hs.has.1 (mem_one hp)) hst, ?_⟩
  obtain ⟨A, B, g1, g2⟩ := flat_set hp
  refine h a _ hf ?_
  rw [← hH, g2]; rw [g1] at hs
  exact hs.turn (HO.obj (.loop { rec with state := .busy }))
theorem J.endRound {l : Nat} {rec : Loop} {R : Hs → Prop} (Hend : Hs) (hR : R Hend) (hH : (Hend ++ [[(l, HO.obj (.loop { rec with state := .busy }))]]).flatten = H.flatten) : J c (XW (RE c R l rec) .normal) S H :=
  fun _ _ _ hs => ⟨Hend, hR, by rw [hH]; exact hs⟩

def putAll (S : Slots) (l : List (Nat × Value)) : Slots := l.foldl (fun S p => p :: S) S
theorem Fr.putAll {n : Nat} : ∀ (l : List (Nat × Value)) (S : Slots) (t : Array Value), (∀ p, p ∈ l → Nat.blt p.1 n = true) → Fr { tmps := t, defers := [] } n S →
    Fr { tmps := l.foldl (fun t p => t.setIfInBounds p.1 p.2) t, defers := [] } n (putAll S l) := by
  intro l
  induction l with
  | nil => intro S t _ h; exact h
  | cons p r ih =>
    intro S t hp h
    exact ih (p :: S) _ (fun q hq => hp q (by simp [hq])) (by have := h.put (hp p (by simp)) p.2; simpa [Act.put] using this)

theorem J.rangeFunc {α : Type} {g : Operand} {ps : Array Tmp} {assign body : Code} {gf : Nat} {gfn : Func} {lb : Array Value} {Fs : Hs} {encs : α → List Value} {Ok Done : List α → Prop} {H0 : Hs} (I : List α → Hs → Prop) (h0 : I [] H0)
    (hg : ev S g = some (.func (.func gf) #[] lb)) (hf : P.funcs[gf]? = some gfn) (hb : gfn.body.isNone = false) (hn : (gfn.name == "runtime.NumGoroutine") = false)
    (seq : SeqSp P gf lb Fs encs Ok Done) (hps : ∀ x, (encs x).length = ps.size) (hpn : ∀ t, t ∈ ps.toList → Nat.blt t c.n = true)
    (hround : ∀ w0 K0 l rec pre x Hp, rec.state = .ready → I pre Hp → Ok (pre ++ [x]) → J ⟨w0, K0, c.n⟩ (CI (some l) P assign (Exit.then (BW P l body (RE ⟨w0, K0, c.n⟩ (I (pre ++ [x])) l rec)) (fun _ _ _ => False)))
      (putAll S (ps.toList.zip (encs x))) (Hp ++ [[(l, HO.obj (.loop rec))]]))
    (h : ∀ D xs H1, Done xs → I xs H1 → J c (DX [{ target := .collected D, args := #[] }] (XW Q .normal)) S (H1 ++ Fs ++ [[(D, HO.obj (.deferred (some [])))]])) :
    J c (CI none P (Code.rangeFunc g ps assign body) Q) S (H0 ++ Fs) := by
  intro a w hfr hs
  refine wpIn_rangeFunc (F := Fw none) (n := 0) ?_
  intro fn _
  obtain ⟨rec, hrec⟩ : ∃ rec : Loop, rec = { state := .ready, pending := none, fn, tmps := a.tmps, params := ps, assign, body, defers := w.heap.size } := ⟨_, rfl⟩
  have hst0 : rec.state = .ready := by rw [hrec]
  have hpe0 : rec.pending = none := by rw [hrec]
  obtain ⟨D, hD⟩ : ∃ D, D = w.heap.size := ⟨_, rfl⟩
  obtain ⟨l, hl⟩ : ∃ l, l = w.heap.size + 1 := ⟨_, rfl⟩
  have hs1 := (hs.alloc (HO.obj (.deferred (some [])))).alloc (HO.obj (.loop rec))
  simp only [HO.obj', World.size_alloc] at hs1
  obtain ⟨W1, hW1⟩ : ∃ W1, (w.alloc (.deferred (some []))).alloc (.loop rec) = W1 := ⟨_, rfl⟩
  rw [hW1, ← hl, ← hD] at hs1
  have hs2 : St c.w0 c.K0 W1 (((H0 ++ [[(l, HO.obj (.loop rec))]]) ++ Fs).flatten ++ [(D, HO.obj (.deferred (some [])))]) := by
    refine hs1.perm ?_
    simp only [List.flatten_append, List.flatten_cons, List.flatten_nil, List.append_nil, List.append_assoc, List.cons_append, List.nil_append]
    refine List.perm_middle.trans (List.Perm.cons _ ?_)
    rw [← List.append_assoc]; exact List.perm_append_comm
  refine ⟨l, [{ target := .collected D, args := #[] }], W1, { target := .fn (.func gf) lb, args := #[.func (.yield l) #[] #[]] }, W1, gf, #[.func (.yield l) #[] #[]] ++ lb, W1, ?_, ?_, fun _ _ => trivial, ?_, depthFw, ?_⟩
  · rw [← hW1, hrec, hl, hD]; exact run_enterLoop_outer _ _ _ _ _
  · have := hfr.ev hg
    have e2 : a.eval (.const (.func (.yield l) #[] #[])) = .func (.yield l) #[] #[] := rfl
    simp [resolve, this, e2, Deferred.ofValue]
  · simp [invoke, callFunc_run hf hb hn]
  · refine callsFw ?_
    have hsp := seq l (fun pre Hq => ∃ Hp, I pre Hp ∧ Hq = Hp ++ [[(l, HO.obj (.loop rec))]]) ?_ (H0 ++ [[(l, HO.obj (.loop rec))]]) ⟨H0, h0, rfl⟩
    · refine (hsp W1 (hs2.has.sub (List.sublist_append_left _ _))).mono ?_
      rintro e w' ⟨v, H', rfl, ⟨xs, _, hx, ⟨H1, hI1, rfl⟩, rfl⟩, hst⟩
      have hs3 := hs2.call hst
      have hm : (l, HO.obj (.loop rec)) ∈ ((H1 ++ [[(l, HO.obj (.loop rec))]]) ++ Fs).flatten ++ [(D, HO.obj (.deferred (some [])))] := by simp
      have hl3 := loop_obj hs3.has.1 hm
      refine ⟨none, _, by rw [run_endLoop (P := P) hl3 (by rw [hst0]; simp), hpe0], ?_⟩
      have hs4 : St c.w0 c.K0 (w'.putObj l (.loop { rec with state := .exhausted })) (H1.flatten ++ ((l, HO.obj (.loop { rec with state := .exhausted })) :: (Fs.flatten ++ [(D, HO.obj (.deferred (some [])))]))) := by
        refine St.turn (o := HO.obj (.loop rec)) ?_ (HO.obj (.loop { rec with state := .exhausted }))
        simpa using hs3
      have hfin := (h D xs H1 hx hI1 a _ hfr (hs4.sub ?_)).2
      · rw [hpe0] at hfin
        show Q .normal _ _
        rw [hfr.defers]
        exact hfin
      · simp only [List.flatten_append, List.flatten_cons, List.flatten_nil, List.append_nil, List.append_assoc]
        exact List.Sublist.append_left (List.sublist_cons_self _ _) _
    · rintro pre x _ ⟨Hp, hIp, rfl⟩ hok w1 hw1
      have hl1 : w1.heap[l]? = some (.loop rec) := loop_obj hw1.1 (by simp)
      have hy := run_yield (P := P) (args := (encs x).toArray) hl1 (by rw [hrec]; simp [hps x])
      rw [hrec] at hy
      refine ⟨fn, _, assign, body, hy, ?_⟩
      have hF : Fr { tmps := (ps.toList.zip (encs x)).foldl (fun t p => t.setIfInBounds p.1 p.2) a.tmps, defers := [] } c.n (putAll S (ps.toList.zip (encs x))) := by
        refine Fr.putAll _ _ _ (fun p hp => hpn p.1 (List.of_mem_zip hp).1) ?_
        exact ⟨hfr.size, rfl, hfr.get⟩
      have hb1 := hround w1 (keys (Hp ++ [[(l, HO.obj (.loop rec))]]).flatten) l rec pre x Hp (by rw [hrec]) hIp hok _ w1 hF (St.start hw1)
      refine roundIn_of_wpIn (F := Fw none) trivial ?_
      have ht : ((ps.zip (encs x).toArray).foldl (fun tmps (t, a) => tmps.setIfInBounds t a) a.tmps) = (ps.toList.zip (encs x)).foldl (fun t p => t.setIfInBounds p.1 p.2) a.tmps := by
        rw [← Array.foldl_toList, Array.toList_zip]
      rw [ht]
      refine Go.wpIn_mono hb1 ?_
      intro e a' w' he
      cases e with
      | normal =>
        obtain ⟨w2, h1, h2⟩ := he
        refine ⟨w2, h1, Go.wpIn_mono h2 ?_⟩
        intro e a'' w3 he
        cases e with
        | normal =>
          obtain ⟨Hend, hRe, h3⟩ : ∃ Hend, I (pre ++ [x]) Hend ∧ St w1 (keys (Hp ++ [[(l, HO.obj (.loop rec))]]).flatten) w3 (Hend ++ [[(l, HO.obj (.loop { rec with state := .busy }))]]).flatten := he
          have hs5 : St w1 (keys (Hp ++ [[(l, HO.obj (.loop rec))]]).flatten) w3 (Hend.flatten ++ ((l, HO.obj (.loop { rec with state := .busy })) :: [])) := by
            simpa using h3
          have hl5 : w3.heap[l]? = some (.loop { rec with state := .busy }) := loop_obj hs5.has.1 (by simp)
          refine ⟨_, _, run_endRound none hl5, rfl, Hend ++ [[(l, HO.obj (.loop rec))]], ⟨Hend, hRe, rfl⟩, ?_⟩
          have hs6 := hs5.turn (HO.obj (.loop rec))
          change St w1 _ (w3.putObj l (.loop rec)) _ at hs6
          have e1 : ({ ({ rec with state := .busy } : Loop) with state := if (none : Option Code).isNone then LoopState.ready else .done, pending := none } : Loop) = rec := by rw [hrec]; rfl
          rw [e1]
          simpa using hs6
        | _ => exact he.elim
      | _ => exact he.elim

/-- A function that holds a range over a function. -/
theorem Sp.introM {f : FuncId} {fn : Func} {body : Code} {args : Array Value} {Post : Value → Hs → Prop} (hf : P.funcs[f]? = some fn) (hb : fn.body = some body)
    (hn : Nat.ble args.size fn.ntmps = true)
    {S : Slots} (hS : slotsFrom 0 args.toList = S)
    (h : ∀ w K0, J ⟨w, K0, fn.ntmps⟩ (CI none P body (bodyPostM (Fw none) 0 P fn (Ret w K0 Post))) S H) : Sp P f args H Post :=
  fun w hw => (callsIn_wide (n := 0)).1 (callsIn_of_wp_marks (F := Fw none) hf hb trivial (h w (keys H.flatten) _ w ⟨by have := Nat.le_of_ble_eq_true hn; simp; omega, rfl, fun t v ht => by
    rw [← hS] at ht
    obtain ⟨_, h2⟩ := slotsFrom_get _ _ _ _ ht
    simp only [Nat.sub_zero] at h2
    have hlt : t < args.size := by
      have := List.getElem?_eq_some_iff.1 h2
      simpa using this.1
    rw [Array.getD_eq_getD_getElem?, Array.getElem?_append_left hlt]
    rw [← Array.getElem?_toList, h2]; rfl⟩ (St.start hw)) rfl)
/-- Its end: the mark of the rounds' deferred calls is taken up. -/
theorem J.doneM {fn : Func} {Post : Value → Hs → Prop} {v : Value} {D : Nat} {A : Hs} {e : Exit} (he : e = .ret ∨ e = .normal) (hr : ∀ a w, Fr a c.n S → (results fn a.tmps).run P w = .ok v w)
    (hp : Post v A) :
    J c (DX [{ target := .collected D, args := #[] }] (XW (bodyPostM (Fw none) 0 P fn (Ret c.w0 c.K0 Post)) e)) S (A ++ [[(D, HO.obj (.deferred (some [])))]]) :=
  fun a w hfr hs => by
    refine ⟨hfr.defers, ?_⟩
    have hD : w.heap[D]? = some (.deferred (some [])) := hs.has.1 D (HO.obj (.deferred (some []))) (by simp)
    have hs1 : St c.w0 c.K0 (w.putObj D (.deferred none)) (A.flatten ++ ((D, HO.obj (.deferred none)) :: [])) := by
      refine St.turn (o := HO.obj (.deferred (some []))) ?_ (HO.obj (.deferred none))
      simpa using hs
    have hL : LeavesInM (Fw none) 0 P fn a.tmps (Ret c.w0 c.K0 Post) [{ target := .collected D, args := #[] }] .returning w :=
      ⟨by simp, .inl ⟨D, _, rfl, run_takeDeferred hD, v, hr a _ hfr, v, A, rfl, hp, hs1.sub (List.sublist_append_left _ _)⟩⟩
    rcases he with rfl | rfl <;> exact hL
end
end Go.Proofs.YE
namespace Go.Proofs.YE
open Go
section
variable {P : Program} {Q : Exit → Act → World → Prop} {c : Cx} {S : Slots} {H : Hs}
def MW {α : Type} (c : Cx) (Sx : α → Slots) (Hx : α → Hs) (Px : α → Prop) : Act → World → Prop :=
  fun a w => ∃ z, Px z ∧ Fr a c.n (Sx z) ∧ St c.w0 c.K0 w (Hx z).flatten
/-- What lies between two parts, named: the second is walked once. -/
theorem J.cut {α : Type} {x y : Code} (Sx : α → Slots) (Hx : α → Hs) (Px : α → Prop) (h2 : ∀ z, Px z → J c (CW P y Q) (Sx z) (Hx z))
    (h1 : J c (CW P x (Exit.then (MW c Sx Hx Px) Q)) S H) : J c (CW P (Code.seq x y) Q) S H :=
  J.seq (fun a w hf hs => wp_mono (h1 a w hf hs) (fun e a' w' he => by
    cases e with
    | normal => obtain ⟨z, hz, h3, h4⟩ := he; exact h2 z hz a' w' h3 h4
    | _ => exact he))
theorem J.mid {α : Type} {Sx : α → Slots} {Hx : α → Hs} {Px : α → Prop} (z : α) (hz : Px z) (hS : ∀ t v, (Sx z).get t = some v → S.get t = some v) (hH : (Hx z).flatten = H.flatten) : J c (MW c Sx Hx Px) S H :=
  fun _ _ hf hs => ⟨z, hz, hf.mono hS, by rw [hH]; exact hs⟩
/-- An empty piece, laid in between. -/
theorem J.nilAt {X : Act → World → Prop} (i : Nat) {R : Hs} (hR : H.take i ++ [] :: H.drop i = R) (h : J c X S R) : J c X S H :=
  J.flat (H' := R) (by rw [← hR, List.flatten_append, List.flatten_cons, List.nil_append, ← List.flatten_append, List.take_append_drop]) h
end
section
variable {P : Program} {n : Nat} {S : Slots} {H : Hs} {o : Oper}
theorem Gives.or {T U : TypeId} {x y : Operand} {k : IntKind} {p q : Int} (ho : o.op = .binOp .or T x y U) (hx : ev S x = some (.int k p)) (hy : ev S y = some (.int k q)) : Gives P n o (.int k (k.wrap (BitVec.ofInt k.bits p ||| BitVec.ofInt k.bits q).toNat)) S H :=
  binInt_run ho hx hy fun w => by simp [binOp, Op.intBits]
end
end Go.Proofs.YE
namespace Go.Proofs.YE
open Go
section
variable {P : Program} {f : FuncId} {args : Array Value}
theorem St.call_start {w w' : World} {H1 F H1' : Heap} (hw : Has w (H1 ++ F)) (h' : St w (keys H1) w' H1') : St w (keys (H1 ++ F)) w' (H1' ++ F) := (St.start hw).call h'
theorem St.keysPerm {w w' : World} {K K' : List Nat} {H : Heap} (h : St w K w' H) (hk : ∀ b, b ∈ K → b ∈ K') : St w K' w' H :=
  ⟨h.has, ⟨h.keep.os, h.keep.tape, h.keep.output, h.keep.size, fun b hb hn => h.keep.block b hb (fun hm => hn (hk b hm))⟩, fun k hm => (h.fresh k hm).imp (hk k) id⟩
/-- A contract whose blocks are left as they are, told over more blocks in another order. -/
theorem Sp.framed {V : Value → Prop} {H1 F HQ : Hs} (sp : Sp P f args H1 (fun v H => V v ∧ H = H1)) (hp : (H1 ++ F).Perm HQ) : Sp P f args HQ (fun v H => V v ∧ H = HQ) := fun w hw => by
  have hpf := hp.flatten
  have hw1 : Has w (H1 ++ F).flatten := hw.perm hpf
  rw [List.flatten_append] at hw1
  refine (sp w (hw1.sub (List.sublist_append_left _ _))).mono ?_
  rintro e w' ⟨v, H', rfl, ⟨hv, rfl⟩, hst⟩
  refine ⟨v, HQ, rfl, ⟨hv, rfl⟩, ?_⟩
  have h1 := St.call_start hw1 hst
  have h2 : St w (keys HQ.flatten) w' (H'.flatten ++ F.flatten) := h1.keysPerm (fun b hb => by
    have := (hpf.map Prod.fst).mem_iff (a := b)
    rw [List.flatten_append] at this
    exact this.1 hb)
  refine h2.perm ?_
  rw [← List.flatten_append]
  exact hpf.symm
/-- A contract that says less. -/
theorem Sp.weak {H : Hs} {Post Post' : Value → Hs → Prop} (sp : Sp P f args H Post) (h : ∀ v H', Post v H' → Post' v H') : Sp P f args H Post' := fun w hw =>
  (sp w hw).mono (fun e w' ⟨v, H', he, hp, hs⟩ => ⟨v, H', he, h v H' hp, hs⟩)
end
end Go.Proofs.YE
namespace Go.Proofs.YE
open Go
theorem J.cutTE {P : Program} {Q : Exit → Act → World → Prop} {c : Cx} {S : Slots} {H : Hs} {α : Type} {x y : Code} (Sx : α → Slots) (Hx : α → Hs) (Px : α → Prop) (h2 : ∀ z, Px z → J c (CW P y Q) (Sx z) (Hx z))
    (h1 : J c (CW P x (Exit.then (MW c Sx Hx Px) Q)) S H) : J c (CW P x (Exit.then (CW P y Q) Q)) S H :=
  (fun a w hf hs => wp_mono (h1 a w hf hs) (fun e a' w' he => by
    cases e with
    | normal => obtain ⟨z, hz, h3, h4⟩ := he; exact h2 z hz a' w' h3 h4
    | _ => exact he))
end Go.Proofs.YE
namespace Go.Proofs.YE
open Go
section
variable {P : Program} {f : FuncId} {args : Array Value}
theorem Sp.frame {H1 : Hs} {Post Post' : Value → Hs → Prop} (F : Hs) {HQ : Hs} (sp : Sp P f args H1 Post) (hp : (H1 ++ F).Perm HQ) (hq : ∀ v H', Post v H' → ∃ HR, Post' v HR ∧ (H' ++ F).Perm HR) : Sp P f args HQ Post' := fun w hw => by
  have hpf := hp.flatten
  have hw1 : Has w (H1 ++ F).flatten := hw.perm hpf
  rw [List.flatten_append] at hw1
  refine (sp w (hw1.sub (List.sublist_append_left _ _))).mono ?_
  rintro e w' ⟨v, H', rfl, hv, hst⟩
  obtain ⟨HR, hR, hpR⟩ := hq v H' hv
  refine ⟨v, HR, rfl, hR, ?_⟩
  have h1 := St.call_start hw1 hst
  have h2 : St w (keys HQ.flatten) w' (H'.flatten ++ F.flatten) := h1.keysPerm (fun b hb => by
    have := (hpf.map Prod.fst).mem_iff (a := b)
    rw [List.flatten_append] at this
    exact this.1 hb)
  refine h2.perm ?_
  rw [← List.flatten_append]
  exact hpR.flatten.symm
end
end Go.Proofs.YE
namespace Go.Proofs.YE
open Go
/-- The pieces at these places. -/
def pickAt {α : Type} : List Nat → List α → List α
  | [], _ => []
  | i :: is, L => (L.drop i).take 1 ++ pickAt is L
theorem pickAt_eq {α : Type} (L : List α) : ∀ is : List Nat, (∀ i, i ∈ is → i < L.length) → (pickAt is L).map some = is.map (fun i => L[i]?)
  | [], _ => rfl
  | i :: is, h => by
    have hi := h i (by simp)
    have hd : (L.drop i).take 1 = [L[i]] := by
      rw [List.drop_eq_getElem_cons hi]; rfl
    simp only [pickAt, hd, List.map_append, List.map_cons, List.map_nil, List.singleton_append, pickAt_eq L is (fun j hj => h j (by simp [hj]))]
    rw [List.getElem?_eq_getElem hi]
theorem perm_at {α : Type} {R L : List α} (is : List Nat) {n : Nat} (hL : pickAt is R = L) (hn : R.length = n) (hp : is.Perm (List.range n)) : L.Perm R := by
  have h1 := pickAt_eq R is (fun i hi => by rw [hn]; exact List.mem_range.1 (hp.mem_iff.1 hi))
  rw [hL] at h1
  have h2 : (is.map (fun i => R[i]?)).Perm ((List.range n).map (fun i => R[i]?)) := hp.map _
  have h3 : (List.range n).map (fun i => R[i]?) = R.map some := by
    subst hn
    apply List.ext_getElem <;> simp
  rw [h3, ← h1] at h2
  have h4 := h2.filterMap id
  simpa [List.filterMap_map] using h4
def AD (P : Program) (ops : Array Oper) (Q : Exit → Act → World → Prop) (fuel : Nat) (listed : Array Bool) : Act → World → Prop := wpAny P .any ops Q fuel listed
def WD (P : Program) (ops : Array Oper) (Q : Exit → Act → World → Prop) (i : Nat) (K : Act → World → Prop) : Act → World → Prop := Go.wpOp P ops Q i K
section
variable {P : Program} {Q : Exit → Act → World → Prop} {c : Cx} {S : Slots} {H : Hs} {D : List Deferred} {X : Act → World → Prop} {ops : Array Oper} {rest : List Oper} {o : Oper} {K : Act → World → Prop}
/-- The pieces in another order. -/
theorem J.ord {X : Act → World → Prop} (is : List Nat) (n : Nat) (hn : H.length = n) (hp : is.Perm (List.range n)) (h : J c X S (pickAt is H)) : J c X S H :=
  J.perm ((perm_at is rfl hn hp)) h
theorem J.anyD (hm : P.follows .mixedOrders = true) {id : Nat} (h : J c (DX D (AD P ops Q ops.size (Array.replicate ops.size false))) S H) :
    J c (DX D (CW P (Code.region id ops true) Q)) S H :=
  fun a w hf hs => ⟨hf.defers, wp_region_any hm (h a _ hf hs.drew).2⟩
theorem J.eachD (rs : List Nat) {fuel : Nat} {listed : Array Bool} (hr : Region.ready .any ops listed = rs) (hne : rs ≠ [])
    (h : ∀ i, i ∈ rs → J c (DX D (WD P ops Q i (AD P ops Q fuel (listed.setIfInBounds i true)))) S H) :
    J c (DX D (AD P ops Q (fuel + 1) listed)) S H :=
  fun a w hf hs => ⟨hf.defers, ⟨fun h0 => absurd (hr.symm.trans h0) hne, fun i hi => (h i (hr ▸ hi) a w hf hs).2⟩⟩
theorem J.allD {fuel : Nat} {listed : Array Bool} (hr : Region.ready .any ops listed = []) (h : J c (DX D (XW Q .normal)) S H) : J c (DX D (AD P ops Q fuel listed)) S H :=
  fun a w hf hs => ⟨hf.defers, by
    cases fuel with
    | zero => exact ⟨hr, (h a w hf hs).2⟩
    | succ n => exact ⟨fun _ => (h a w hf hs).2, fun i hi => by rw [hr] at hi; cases hi⟩⟩
/-- Ways that meet: what comes behind is walked once. -/
theorem J.joinD {α : Type} {fuel : Nat} {l : Array Bool} (fuel' : Nat) (l' : Array Bool) (Sx : α → Slots) (Hx : α → Hs) (Px : α → Prop) (h2 : ∀ z, Px z → J c (DX D (AD P ops Q fuel' l')) (Sx z) (Hx z))
    (h1 : (∀ (z : α) (S1 : Slots) (H1 : Hs) (m : Array Bool), m = l' → Px z → (∀ t v, (Sx z).get t = some v → S1.get t = some v) → Hx z = H1 → J c (DX D (AD P ops Q fuel' m)) S1 H1) → J c (DX D (AD P ops Q fuel l)) S H) :
    J c (DX D (AD P ops Q fuel l)) S H :=
  h1 (fun z S1 H1 m hm hz hS hH a w hf hs => by subst hm; subst hH; exact h2 z hz a w (hf.mono hS) hs)
theorem J.wpOpD {i : Nat} {oi : Oper} (hi : ops[i]? = some oi) (hg : oi.guard = none) (h : J c (OW P oi (DX D K) (DQ D Q)) S H) : J c (DX D (WD P ops Q i K)) S H :=
  fun a w hf hs => by
    refine ⟨hf.defers, ?_⟩
    show Go.wpOp P ops Q i K _ w
    unfold Go.wpOp
    rw [hi]
    simp only [Region.wanted, hg, if_true]
    refine .inl ?_
    show oi.upon P _ _ Q ((execOp _ oi).run P w)
    rw [eval_defers]
    exact upon_defers _ (h a w hf hs)
/-- A contract told over more blocks, of which some are forgotten behind it. -/
theorem Sp.frameG {f : FuncId} {args : Array Value} {H1 : Hs} {Post Post' : Value → Hs → Prop} (F : Hs) {HQ : Hs} (sp : Sp P f args H1 Post) (hp : (H1 ++ F).Perm HQ) (hq : ∀ v H', Post v H' → ∃ HR G, Post' v HR ∧ (H' ++ F).Perm (HR ++ G)) : Sp P f args HQ Post' := fun w hw => by
  refine (Sp.frame (Post' := fun v HR => ∃ HR' G, Post' v HR' ∧ HR = HR' ++ G) F sp hp (fun v H' h => ?_) w hw).mono ?_
  · obtain ⟨HR, G, h1, h2⟩ := hq v H' h
    exact ⟨_, ⟨HR, G, h1, rfl⟩, h2⟩
  · rintro e w' ⟨v, H', rfl, ⟨HR, G, h1, rfl⟩, hst⟩
    exact ⟨v, HR, rfl, h1, hst.sub (by rw [List.flatten_append]; exact List.sublist_append_left _ _)⟩
theorem res1d {c : Cx} {fn : Func} {t : Nat} {v : Value} (h : fn.results = #[.tmp t]) (hs : S.get t = some v) : ∀ a w, Fr a c.n S → (results fn a.tmps).run P w = .ok v w := fun a w hf => by
  rw [results_tmp h]; exact congrArg (fun x => Result.ok x w) (hf.get t v hs)
theorem resolveFn {n : Nat} {f : FuncId} {xs : Array Operand} {ats : Array TypeId} {ty : TypeId} {args : List Value} (hargs : xs.toList.map (ev S) = args.map some) (a : Act) (w : World) (hf : Fr a n S) :
    (resolve a.eval { callee := .value (.func f), args := xs, argTypes := ats } ty).run P w = .ok { target := .fn (.func f) #[], args := args.toArray } w := by
  have hx : xs.map a.eval = args.toArray := by rw [← mapEv hf _ _ hargs]; apply Array.ext'; simp
  show (Deferred.ofValue (.func (.func f) #[] #[]) (xs.map a.eval)).run P w = _
  rw [hx]
  show Result.ok ({ target := .fn (.func f) #[], args := #[] ++ args.toArray } : Deferred) w = _
  simp
end
end Go.Proofs.YE
namespace Go.Proofs.YE
open Go
structure Hid (p : Prop) : Prop where out : p
def nth {α : Type} : List α → Nat → Option α
  | [], _ => none
  | a :: _, 0 => some a
  | _ :: l, n + 1 => nth l n
theorem nth_get {α : Type} : ∀ (l : List α) (i : Nat), nth l i = l[i]?
  | [], _ => rfl
  | _ :: _, 0 => rfl
  | _ :: l, n + 1 => nth_get l n
theorem nth_eq {α : Type} {ops : Array α} {i : Nat} {o : α} (h : nth ops.toList i = some o) : ops[i]? = some o := by rw [nth_get] at h; simpa using h
theorem nrm.{u} {α : Sort u} {a b : α} (h : a = b := by first | (dsimp only [List.set, splice, List.take, List.drop, List.length, List.append, List.nil_append, List.append_nil, List.cons_append, List.eraseIdx, List.filterMap, Nat.reduceAdd, Nat.reduceMul, Int.reduceToNat, Int.toNat_natCast, Nat.zero_add, Nat.add_zero]; done) | exact rfl) : a = b := h
section
variable {P : Program} {n : Nat} {S : Slots} {H : Hs} {v : Value} {dst : Option Nat} {ty : TypeId} {pos : String} {after : Array Edge} {g : Option (Nat × Bool)}
theorem Gives.fMove {x : Operand} (h : Gives P n ⟨dst, .move x, ty, pos, after, g⟩ v S H) : Gives P n ⟨dst, .move x, ty, pos, after, g⟩ v S H := h
theorem Gives.fAssign {x : Operand} (h : Gives P n ⟨dst, .assign x, ty, pos, after, g⟩ v S H) : Gives P n ⟨dst, .assign x, ty, pos, after, g⟩ v S H := h
theorem Gives.fPick {x y z : Operand} (h : Gives P n ⟨dst, .pick x y z, ty, pos, after, g⟩ v S H) : Gives P n ⟨dst, .pick x y z, ty, pos, after, g⟩ v S H := h
theorem Gives.fLoad {T : TypeId} {x : Operand} (h : Gives P n ⟨dst, .load T x, ty, pos, after, g⟩ v S H) : Gives P n ⟨dst, .load T x, ty, pos, after, g⟩ v S H := h
theorem Gives.fNilCheck {x : Operand} (h : Gives P n ⟨dst, .nilCheck x, ty, pos, after, g⟩ v S H) : Gives P n ⟨dst, .nilCheck x, ty, pos, after, g⟩ v S H := h
theorem Gives.fBin {b : BinOp} {T U : TypeId} {x y : Operand} (h : Gives P n ⟨dst, .binOp b T x y U, ty, pos, after, g⟩ v S H) : Gives P n ⟨dst, .binOp b T x y U, ty, pos, after, g⟩ v S H := h
theorem Gives.fUn {u : UnOp} {T : TypeId} {x : Operand} (h : Gives P n ⟨dst, .unOp u T x, ty, pos, after, g⟩ v S H) : Gives P n ⟨dst, .unOp u T x, ty, pos, after, g⟩ v S H := h
theorem Gives.fConv {T U : TypeId} {x : Operand} (h : Gives P n ⟨dst, .convert T U x, ty, pos, after, g⟩ v S H) : Gives P n ⟨dst, .convert T U x, ty, pos, after, g⟩ v S H := h
theorem Gives.fMakeFunc {f : Fn} {xs ys : Array Operand} (h : Gives P n ⟨dst, .makeFunc f xs ys, ty, pos, after, g⟩ v S H) : Gives P n ⟨dst, .makeFunc f xs ys, ty, pos, after, g⟩ v S H := h
theorem Gives.fSlice {T : TypeId} {x : Operand} {lo hi mx : Option Operand} (h : Gives P n ⟨dst, .slice T x lo hi mx, ty, pos, after, g⟩ v S H) : Gives P n ⟨dst, .slice T x lo hi mx, ty, pos, after, g⟩ v S H := h
theorem Gives.fFieldAddr {T : TypeId} {x : Operand} {f : Nat} (h : Gives P n ⟨dst, .fieldAddr T x f, ty, pos, after, g⟩ v S H) : Gives P n ⟨dst, .fieldAddr T x f, ty, pos, after, g⟩ v S H := h
theorem Gives.fField {T : TypeId} {x : Operand} {f : Nat} (h : Gives P n ⟨dst, .field T x f, ty, pos, after, g⟩ v S H) : Gives P n ⟨dst, .field T x f, ty, pos, after, g⟩ v S H := h
theorem Gives.fIndexAddr {T : TypeId} {x y : Operand} (h : Gives P n ⟨dst, .indexAddr T x y, ty, pos, after, g⟩ v S H) : Gives P n ⟨dst, .indexAddr T x y, ty, pos, after, g⟩ v S H := h
theorem Gives.fIndex {T : TypeId} {x y : Operand} (h : Gives P n ⟨dst, .index T x y, ty, pos, after, g⟩ v S H) : Gives P n ⟨dst, .index T x y, ty, pos, after, g⟩ v S H := h
theorem Gives.fExtract {x : Operand} {i : Nat} (h : Gives P n ⟨dst, .extract x i, ty, pos, after, g⟩ v S H) : Gives P n ⟨dst, .extract x i, ty, pos, after, g⟩ v S H := h
theorem Gives.fBuild {T : TypeId} {ps : Array (Nat × Operand)} (h : Gives P n ⟨dst, .build T ps, ty, pos, after, g⟩ v S H) : Gives P n ⟨dst, .build T ps, ty, pos, after, g⟩ v S H := h
theorem Gives.fBuiltin {b : Builtin} {xs : Array Operand} {ats : Array TypeId} (h : Gives P n ⟨dst, .call { callee := .builtin b, args := xs, argTypes := ats }, ty, pos, after, g⟩ v S H) : Gives P n ⟨dst, .call { callee := .builtin b, args := xs, argTypes := ats }, ty, pos, after, g⟩ v S H := h
theorem Gives.byA {o : Oper} (h : Gives P n o v S H := by first | (apply Gives.fMove; exact Gives.move rfl rfl) | (apply Gives.fAssign; exact Gives.assign rfl rfl) | (apply Gives.fFieldAddr; first | exact Gives.fieldAddr0 rfl rfl | exact Gives.fieldAddr rfl rfl) | (apply Gives.fNilCheck; first | exact Gives.nilCheck rfl rfl | exact Gives.nilCheckF rfl rfl) | (apply Gives.fLoad; first | exact Gives.load1 0 rfl rfl rfl rfl | exact Gives.load1 1 rfl rfl rfl rfl | exact Gives.load1 2 rfl rfl rfl rfl | exact Gives.load1 3 rfl rfl rfl rfl | exact Gives.load1 4 rfl rfl rfl rfl | exact Gives.load1 5 rfl rfl rfl rfl | exact Gives.load1 6 rfl rfl rfl rfl | exact Gives.load1 7 rfl rfl rfl rfl | exact Gives.load1 8 rfl rfl rfl rfl | exact Gives.load1 9 rfl rfl rfl rfl | exact Gives.load1 10 rfl rfl rfl rfl | exact Gives.load1 11 rfl rfl rfl rfl | exact Gives.loadA 0 rfl rfl rfl rfl nrm | exact Gives.loadA 1 rfl rfl rfl rfl nrm | exact Gives.loadA 2 rfl rfl rfl rfl nrm | exact Gives.loadA 3 rfl rfl rfl rfl nrm | exact Gives.loadA 4 rfl rfl rfl rfl nrm | exact Gives.loadA 5 rfl rfl rfl rfl nrm | exact Gives.loadA 6 rfl rfl rfl rfl nrm | exact Gives.loadA 7 rfl rfl rfl rfl nrm | exact Gives.loadA 8 rfl rfl rfl rfl nrm | exact Gives.loadA 9 rfl rfl rfl rfl nrm | exact Gives.loadA 10 rfl rfl rfl rfl nrm | exact Gives.loadA 11 rfl rfl rfl rfl nrm) | (apply Gives.fBin; first | exact Gives.strEq rfl rfl rfl | exact Gives.strNe rfl rfl rfl | exact Gives.ptrEq0 rfl rfl rfl | exact Gives.ptrNe0 rfl rfl rfl | exact Gives.mapEq0 rfl rfl rfl | exact Gives.slcEq0 rfl rfl rfl | exact Gives.eq rfl rfl rfl | exact Gives.ne rfl rfl rfl | exact Gives.lt rfl rfl rfl | exact Gives.le rfl rfl rfl | exact Gives.gt rfl rfl rfl | exact Gives.ge rfl rfl rfl | (refine Gives.add64 rfl rfl rfl ?_; omega) | (refine Gives.sub64 rfl rfl rfl ?_; omega) | (refine Gives.mul64 rfl rfl rfl ?_; omega) | (refine Gives.quo64 rfl rfl rfl ?_ ?_; (focus omega); (focus omega)) | (refine Gives.rem64 rfl rfl rfl ?_ rfl; omega) | (refine Gives.shr rfl rfl rfl ?_; omega) | exact Gives.xor rfl rfl rfl | exact Gives.and rfl rfl rfl | exact Gives.mul rfl rfl rfl | exact Gives.addU rfl rfl rfl) | (apply Gives.fPick; first | exact Gives.pickT rfl rfl rfl | exact Gives.pickF rfl rfl rfl | exact Gives.pickB rfl rfl rfl rfl) | (apply Gives.fExtract; exact Gives.extract rfl rfl rfl) | (apply Gives.fUn; first | exact Gives.not rfl rfl | exact Gives.notI rfl rfl) | (apply Gives.fMakeFunc; exact Gives.makeFn rfl rfl rfl) | (apply Gives.fBuiltin; first | exact Gives.lenS rfl rfl | exact Gives.capS rfl rfl | exact Gives.min64 rfl rfl rfl | exact Gives.min3 rfl rfl rfl rfl | exact Gives.max64 rfl rfl rfl | exact Gives.lenStr (StrT.und) rfl rfl | exact Gives.lenMap 0 rfl rfl rfl | exact Gives.lenMap 1 rfl rfl rfl | exact Gives.lenMap 2 rfl rfl rfl | exact Gives.lenMap 3 rfl rfl rfl | exact Gives.lenMap 4 rfl rfl rfl | exact Gives.lenMap 5 rfl rfl rfl | exact Gives.lenMap 6 rfl rfl rfl | exact Gives.lenMap 7 rfl rfl rfl | exact Gives.lenMap 8 rfl rfl rfl | exact Gives.lenMap 9 rfl rfl rfl | exact Gives.lenMap 10 rfl rfl rfl | exact Gives.lenMap 11 rfl rfl rfl) | (apply Gives.fField; first | exact Gives.field1 rfl rfl rfl | exact Gives.fieldA rfl rfl nrm) | (apply Gives.fConv; exact Gives.conv rfl rfl) | (apply Gives.fIndex; (refine Gives.indexA1 rfl rfl rfl ?_ rfl; omega)) | (apply Gives.fIndexAddr; first | (refine Gives.indexAddrA rfl rfl rfl ?_; omega) | (refine Gives.indexAddrS rfl rfl rfl ?_; omega)) | (apply Gives.fSlice; first | exact Gives.arrAll rfl rfl | (refine Gives.strSl rfl rfl rfl rfl ?_; omega) | (refine Gives.strTo rfl rfl rfl ?_; omega)) | (apply Gives.fBuild; exact Gives.build rfl rfl nrm rfl)) : Gives P n o v S H := h
theorem dec {p : Prop} (h : p := by (focus (first | assumption | (refine decide_eq_true ?_; omega) | (refine decide_eq_false ?_; omega) | (refine beq_iff_eq.2 ?_; omega) | (refine beq_eq_false_iff_ne.2 ?_; omega) | (refine bne_iff_ne.2 ?_; omega) | (refine bne_eq_false_iff_eq.2 ?_; omega) | (rw [Bool.not_eq_true']; first | assumption | (refine decide_eq_true ?_; omega) | (refine decide_eq_false ?_; omega) | (refine beq_iff_eq.2 ?_; omega) | (refine beq_eq_false_iff_ne.2 ?_; omega) | (refine bne_iff_ne.2 ?_; omega) | (refine bne_eq_false_iff_eq.2 ?_; omega)) | (rw [Bool.not_eq_false']; first | assumption | (refine decide_eq_true ?_; omega) | (refine decide_eq_false ?_; omega) | (refine beq_iff_eq.2 ?_; omega) | (refine beq_eq_false_iff_ne.2 ?_; omega) | (refine bne_iff_ne.2 ?_; omega) | (refine bne_eq_false_iff_eq.2 ?_; omega))))) : p := h
end
/-- One piece taken out. -/
inductive Pull (p : Heap) : Hs → Hs → Prop where
  | here {R : Hs} : Pull p (p :: R) R
  | there {q : Heap} {R R' : Hs} (h : Pull p R R') : Pull p (q :: R) (q :: R')
/-- The pieces H1 stand in H; F is the rest. -/
inductive Took : Hs → Hs → Hs → Prop where
  | nil {H : Hs} : Took [] H H
  | cons {p : Heap} {H1 H H' F : Hs} (h : Pull p H H') (t : Took H1 H' F) : Took (p :: H1) H F
theorem Pull.perm {p : Heap} {H R : Hs} (h : Pull p H R) : (p :: R).Perm H := by
  induction h with
  | here => exact List.Perm.refl _
  | there _ ih => exact (List.Perm.swap _ _ _).trans (ih.cons _)
theorem Took.perm {H1 H F : Hs} (h : Took H1 H F) : (H1 ++ F).Perm H := by
  induction h with
  | nil => exact List.Perm.refl _
  | cons h _ ih => exact (ih.cons _).trans h.perm

section
variable {P : Program} {Q : Exit → Act → World → Prop} {c : Cx} {S : Slots} {H : Hs} {X K : Act → World → Prop} {ops : Array Oper} {rest : List Oper} {D : List Deferred}
theorem wo {G' G : Prop} (h : G') (w : Hid G' → G := by intro h; (first | (refine J.isMove ?_; refine J.give (Gives.move rfl rfl) rfl rfl ?_) | (refine J.isAssign ?_; refine J.give (Gives.assign rfl rfl) rfl rfl ?_) | (refine J.isFieldAddr ?_; first | refine J.give (Gives.fieldAddr0 rfl rfl) rfl rfl ?_ | refine J.give (Gives.fieldAddr rfl rfl) rfl rfl ?_) | (refine J.isNilCheck ?_; first | refine J.give (Gives.nilCheck rfl rfl) rfl rfl ?_ | refine J.give (Gives.nilCheckF rfl rfl) rfl rfl ?_) | (refine J.isLoad ?_; first | refine J.give (Gives.load1 0 rfl rfl rfl rfl) rfl rfl ?_ | refine J.give (Gives.load1 1 rfl rfl rfl rfl) rfl rfl ?_ | refine J.give (Gives.load1 2 rfl rfl rfl rfl) rfl rfl ?_ | refine J.give (Gives.load1 3 rfl rfl rfl rfl) rfl rfl ?_ | refine J.give (Gives.load1 4 rfl rfl rfl rfl) rfl rfl ?_ | refine J.give (Gives.load1 5 rfl rfl rfl rfl) rfl rfl ?_ | refine J.give (Gives.load1 6 rfl rfl rfl rfl) rfl rfl ?_ | refine J.give (Gives.load1 7 rfl rfl rfl rfl) rfl rfl ?_ | refine J.give (Gives.load1 8 rfl rfl rfl rfl) rfl rfl ?_ | refine J.give (Gives.load1 9 rfl rfl rfl rfl) rfl rfl ?_ | refine J.give (Gives.load1 10 rfl rfl rfl rfl) rfl rfl ?_ | refine J.give (Gives.load1 11 rfl rfl rfl rfl) rfl rfl ?_ | (first | refine J.give (Gives.loadA 0 rfl rfl rfl rfl nrm) rfl rfl ?_ | refine J.give (Gives.loadA 1 rfl rfl rfl rfl nrm) rfl rfl ?_ | refine J.give (Gives.loadA 2 rfl rfl rfl rfl nrm) rfl rfl ?_ | refine J.give (Gives.loadA 3 rfl rfl rfl rfl nrm) rfl rfl ?_ | refine J.give (Gives.loadA 4 rfl rfl rfl rfl nrm) rfl rfl ?_ | refine J.give (Gives.loadA 5 rfl rfl rfl rfl nrm) rfl rfl ?_ | refine J.give (Gives.loadA 6 rfl rfl rfl rfl nrm) rfl rfl ?_ | refine J.give (Gives.loadA 7 rfl rfl rfl rfl nrm) rfl rfl ?_ | refine J.give (Gives.loadA 8 rfl rfl rfl rfl nrm) rfl rfl ?_ | refine J.give (Gives.loadA 9 rfl rfl rfl rfl nrm) rfl rfl ?_ | refine J.give (Gives.loadA 10 rfl rfl rfl rfl nrm) rfl rfl ?_ | refine J.give (Gives.loadA 11 rfl rfl rfl rfl nrm) rfl rfl ?_)) | (refine J.isBin ?_; first | refine J.give (Gives.strEq rfl rfl rfl) rfl rfl ?_ | refine J.give (Gives.strNe rfl rfl rfl) rfl rfl ?_ | refine J.give (Gives.ptrEq0 rfl rfl rfl) rfl rfl ?_ | refine J.give (Gives.ptrNe0 rfl rfl rfl) rfl rfl ?_ | refine J.give (Gives.mapEq0 rfl rfl rfl) rfl rfl ?_ | refine J.give (Gives.slcEq0 rfl rfl rfl) rfl rfl ?_ | refine J.give (Gives.eq rfl rfl rfl) rfl rfl ?_ | refine J.give (Gives.ne rfl rfl rfl) rfl rfl ?_ | refine J.give (Gives.lt rfl rfl rfl) rfl rfl ?_ | refine J.give (Gives.le rfl rfl rfl) rfl rfl ?_ | refine J.give (Gives.gt rfl rfl rfl) rfl rfl ?_ | refine J.give (Gives.ge rfl rfl rfl) rfl rfl ?_ | (refine J.give (Gives.add64 rfl rfl rfl ?_) rfl rfl ?_; (focus omega)) | (refine J.give (Gives.sub64 rfl rfl rfl ?_) rfl rfl ?_; (focus omega)) | (refine J.give (Gives.mul64 rfl rfl rfl ?_) rfl rfl ?_; (focus omega)) | (refine J.give (Gives.quo64 rfl rfl rfl ?_ ?_) rfl rfl ?_; (focus omega); (focus omega)) | (refine J.give (Gives.rem64 rfl rfl rfl ?_ rfl) rfl rfl ?_; (focus omega)) | (refine J.give (Gives.shr rfl rfl rfl ?_) rfl rfl ?_; (focus omega)) | refine J.give (Gives.xor rfl rfl rfl) rfl rfl ?_ | refine J.give (Gives.and rfl rfl rfl) rfl rfl ?_ | refine J.give (Gives.mul rfl rfl rfl) rfl rfl ?_ | refine J.give (Gives.addU rfl rfl rfl) rfl rfl ?_) | (refine J.isStore ?_; first | refine J.store1 0 rfl rfl rfl (by first | rfl | assumption) rfl rfl rfl rfl nrm ?_ | refine J.store1 1 rfl rfl rfl (by first | rfl | assumption) rfl rfl rfl rfl nrm ?_ | refine J.store1 2 rfl rfl rfl (by first | rfl | assumption) rfl rfl rfl rfl nrm ?_ | refine J.store1 3 rfl rfl rfl (by first | rfl | assumption) rfl rfl rfl rfl nrm ?_ | refine J.store1 4 rfl rfl rfl (by first | rfl | assumption) rfl rfl rfl rfl nrm ?_ | refine J.store1 5 rfl rfl rfl (by first | rfl | assumption) rfl rfl rfl rfl nrm ?_ | refine J.store1 6 rfl rfl rfl (by first | rfl | assumption) rfl rfl rfl rfl nrm ?_ | refine J.store1 7 rfl rfl rfl (by first | rfl | assumption) rfl rfl rfl rfl nrm ?_ | refine J.store1 8 rfl rfl rfl (by first | rfl | assumption) rfl rfl rfl rfl nrm ?_ | refine J.store1 9 rfl rfl rfl (by first | rfl | assumption) rfl rfl rfl rfl nrm ?_ | refine J.store1 10 rfl rfl rfl (by first | rfl | assumption) rfl rfl rfl rfl nrm ?_ | refine J.store1 11 rfl rfl rfl (by first | rfl | assumption) rfl rfl rfl rfl nrm ?_ | (first | (refine J.storeA 0 rfl rfl rfl rfl ?_ rfl rfl rfl rfl nrm ?_; focus (simp only [List.mem_cons, List.not_mem_nil, or_false, forall_eq_or_imp, forall_eq, Value.oneCell', and_self, implies_true])) | (refine J.storeA 1 rfl rfl rfl rfl ?_ rfl rfl rfl rfl nrm ?_; focus (simp only [List.mem_cons, List.not_mem_nil, or_false, forall_eq_or_imp, forall_eq, Value.oneCell', and_self, implies_true])) | (refine J.storeA 2 rfl rfl rfl rfl ?_ rfl rfl rfl rfl nrm ?_; focus (simp only [List.mem_cons, List.not_mem_nil, or_false, forall_eq_or_imp, forall_eq, Value.oneCell', and_self, implies_true])) | (refine J.storeA 3 rfl rfl rfl rfl ?_ rfl rfl rfl rfl nrm ?_; focus (simp only [List.mem_cons, List.not_mem_nil, or_false, forall_eq_or_imp, forall_eq, Value.oneCell', and_self, implies_true])) | (refine J.storeA 4 rfl rfl rfl rfl ?_ rfl rfl rfl rfl nrm ?_; focus (simp only [List.mem_cons, List.not_mem_nil, or_false, forall_eq_or_imp, forall_eq, Value.oneCell', and_self, implies_true])) | (refine J.storeA 5 rfl rfl rfl rfl ?_ rfl rfl rfl rfl nrm ?_; focus (simp only [List.mem_cons, List.not_mem_nil, or_false, forall_eq_or_imp, forall_eq, Value.oneCell', and_self, implies_true])) | (refine J.storeA 6 rfl rfl rfl rfl ?_ rfl rfl rfl rfl nrm ?_; focus (simp only [List.mem_cons, List.not_mem_nil, or_false, forall_eq_or_imp, forall_eq, Value.oneCell', and_self, implies_true])) | (refine J.storeA 7 rfl rfl rfl rfl ?_ rfl rfl rfl rfl nrm ?_; focus (simp only [List.mem_cons, List.not_mem_nil, or_false, forall_eq_or_imp, forall_eq, Value.oneCell', and_self, implies_true])) | (refine J.storeA 8 rfl rfl rfl rfl ?_ rfl rfl rfl rfl nrm ?_; focus (simp only [List.mem_cons, List.not_mem_nil, or_false, forall_eq_or_imp, forall_eq, Value.oneCell', and_self, implies_true])) | (refine J.storeA 9 rfl rfl rfl rfl ?_ rfl rfl rfl rfl nrm ?_; focus (simp only [List.mem_cons, List.not_mem_nil, or_false, forall_eq_or_imp, forall_eq, Value.oneCell', and_self, implies_true])) | (refine J.storeA 10 rfl rfl rfl rfl ?_ rfl rfl rfl rfl nrm ?_; focus (simp only [List.mem_cons, List.not_mem_nil, or_false, forall_eq_or_imp, forall_eq, Value.oneCell', and_self, implies_true])) | (refine J.storeA 11 rfl rfl rfl rfl ?_ rfl rfl rfl rfl nrm ?_; focus (simp only [List.mem_cons, List.not_mem_nil, or_false, forall_eq_or_imp, forall_eq, Value.oneCell', and_self, implies_true])))) | (refine J.isPick ?_; first | refine J.give (Gives.pickT rfl rfl rfl) rfl rfl ?_ | refine J.give (Gives.pickF rfl rfl rfl) rfl rfl ?_) | (refine J.isExtract ?_; refine J.give (Gives.extract rfl rfl rfl) rfl rfl ?_) | (refine J.isUn ?_; first | refine J.give (Gives.not rfl rfl) rfl rfl ?_ | refine J.give (Gives.notI rfl rfl) rfl rfl ?_) | (refine J.isAlloc ?_; refine J.alloc rfl rfl rfl ?_) | (refine J.isBox ?_; refine J.box rfl rfl rfl rfl rfl ?_) | (refine J.isMakeMap ?_; refine J.makeMap rfl rfl rfl ?_) | (refine J.isMakeFunc ?_; refine J.give (Gives.makeFn rfl rfl rfl) rfl rfl ?_) | (refine J.isBuiltin ?_; first | refine J.give (Gives.lenS rfl rfl) rfl rfl ?_ | refine J.give (Gives.min64 rfl rfl rfl) rfl rfl ?_ | refine J.give (Gives.min3 rfl rfl rfl rfl) rfl rfl ?_ | refine J.give (Gives.max64 rfl rfl rfl) rfl rfl ?_ | refine J.give (Gives.lenStr (StrT.und) rfl rfl) rfl rfl ?_ | (first | refine J.give (Gives.lenMap 0 rfl rfl rfl) rfl rfl ?_ | refine J.give (Gives.lenMap 1 rfl rfl rfl) rfl rfl ?_ | refine J.give (Gives.lenMap 2 rfl rfl rfl) rfl rfl ?_ | refine J.give (Gives.lenMap 3 rfl rfl rfl) rfl rfl ?_ | refine J.give (Gives.lenMap 4 rfl rfl rfl) rfl rfl ?_ | refine J.give (Gives.lenMap 5 rfl rfl rfl) rfl rfl ?_ | refine J.give (Gives.lenMap 6 rfl rfl rfl) rfl rfl ?_ | refine J.give (Gives.lenMap 7 rfl rfl rfl) rfl rfl ?_ | refine J.give (Gives.lenMap 8 rfl rfl rfl) rfl rfl ?_ | refine J.give (Gives.lenMap 9 rfl rfl rfl) rfl rfl ?_ | refine J.give (Gives.lenMap 10 rfl rfl rfl) rfl rfl ?_ | refine J.give (Gives.lenMap 11 rfl rfl rfl) rfl rfl ?_)) | (refine J.isField ?_; first | refine J.give (Gives.field1 rfl rfl rfl) rfl rfl ?_ | refine J.give (Gives.fieldA rfl rfl nrm) rfl rfl ?_) | (refine J.isConv ?_; refine J.give (Gives.conv rfl rfl) rfl rfl ?_) | (refine J.isIndex ?_; (refine J.give (Gives.indexA1 rfl rfl rfl ?_ rfl) rfl rfl ?_; (focus omega))) | (refine J.isIndexAddr ?_; first | (refine J.give (Gives.indexAddrA rfl rfl rfl ?_) rfl rfl ?_; (focus omega)) | (refine J.give (Gives.indexAddrS rfl rfl rfl ?_) rfl rfl ?_; (focus omega))) | (refine J.isSlice ?_; first | refine J.give (Gives.arrAll rfl rfl) rfl rfl ?_ | (refine J.give (Gives.strSl rfl rfl rfl rfl ?_) rfl rfl ?_; (focus omega)) | (refine J.give (Gives.strTo rfl rfl rfl ?_) rfl rfl ?_; (focus omega)))); exact h.out) : G := w ⟨h⟩
theorem wk {G' G : Prop} (h : G') (w : Hid G' → G := by intro h; (first | (refine J.op rfl ?_; refine wo ?_) | refine J.nil ?_ | refine J.thenN ?_ | refine J.seq ?_ | refine J.region ?_ | refine J.block ?_ | refine J.ret ?_ | refine J.skip ?_ | refine J.exit ?_ | refine J.thenX ?_ | refine J.thenR ?_ | refine J.inN ?_ | refine J.inR ?_ | refine J.inX rfl ?_ | refine J.inO rfl ?_ | refine J.condT rfl ?_ | refine J.condF rfl ?_ | (refine J.want rfl rfl rfl ?_; refine wo ?_) | refine J.not rfl rfl rfl rfl rfl rfl ?_ | refine J.notU rfl rfl rfl rfl rfl ?_ | (refine J.cond1 rfl ?_ ?_; exact dec) | (refine J.cond0 rfl ?_ ?_; exact dec) | (refine J.guard1 rfl rfl rfl ?_ ?_; exact dec) | (refine J.guard0 rfl rfl rfl ?_ ?_; exact dec)); (repeat (first | (refine J.op rfl ?_; refine wo ?_) | refine J.nil ?_ | refine J.thenN ?_ | refine J.seq ?_ | refine J.region ?_ | refine J.block ?_ | refine J.ret ?_ | refine J.skip ?_ | refine J.exit ?_ | refine J.thenX ?_ | refine J.thenR ?_ | refine J.inN ?_ | refine J.inR ?_ | refine J.inX rfl ?_ | refine J.inO rfl ?_ | refine J.condT rfl ?_ | refine J.condF rfl ?_ | (refine J.want rfl rfl rfl ?_; refine wo ?_) | refine J.not rfl rfl rfl rfl rfl rfl ?_ | refine J.notU rfl rfl rfl rfl rfl ?_ | (refine J.cond1 rfl ?_ ?_; exact dec) | (refine J.cond0 rfl ?_ ?_; exact dec) | (refine J.guard1 rfl rfl rfl ?_ ?_; exact dec) | (refine J.guard0 rfl rfl rfl ?_ ?_; exact dec))); exact h.out) : G := w ⟨h⟩
theorem wkD {G' G : Prop} (h : G') (w : Hid G' → G := by intro h; (first | (refine J.opD rfl ?_; refine wo ?_) | refine J.nilD ?_ | refine J.thenND ?_ | refine J.seqD ?_ | refine J.regionD ?_ | refine J.blockD ?_ | refine J.retD ?_ | refine J.skipD ?_ | refine J.exitD ?_ | refine J.thenXD ?_ | refine J.thenRD ?_ | refine J.inND ?_ | refine J.inRD ?_ | refine J.inXD rfl ?_ | refine J.inOD rfl ?_ | refine J.condTD rfl ?_ | refine J.condFD rfl ?_ | (refine J.wantD rfl rfl rfl ?_; refine wo ?_) | refine J.notD rfl rfl rfl rfl rfl rfl ?_ | refine J.notUD rfl rfl rfl rfl rfl ?_ | (refine J.cond1D rfl ?_ ?_; exact dec) | (refine J.cond0D rfl ?_ ?_; exact dec)); (repeat (first | (refine J.opD rfl ?_; refine wo ?_) | refine J.nilD ?_ | refine J.thenND ?_ | refine J.seqD ?_ | refine J.regionD ?_ | refine J.blockD ?_ | refine J.retD ?_ | refine J.skipD ?_ | refine J.exitD ?_ | refine J.thenXD ?_ | refine J.thenRD ?_ | refine J.inND ?_ | refine J.inRD ?_ | refine J.inXD rfl ?_ | refine J.inOD rfl ?_ | refine J.condTD rfl ?_ | refine J.condFD rfl ?_ | (refine J.wantD rfl rfl rfl ?_; refine wo ?_) | refine J.notD rfl rfl rfl rfl rfl rfl ?_ | refine J.notUD rfl rfl rfl rfl rfl ?_ | (refine J.cond1D rfl ?_ ?_; exact dec) | (refine J.cond0D rfl ?_ ?_; exact dec))); exact h.out) : G := w ⟨h⟩
theorem wkI {G' G : Prop} (h : G') (w : Hid G' → G := by intro h; (first | (refine J.opI rfl rfl ?_; refine wo ?_) | refine J.nilI ?_ | refine J.thenN ?_ | refine J.seqI ?_ | refine J.regionI ?_ | refine J.skipI ?_ | refine J.blockI ?_ | refine J.inN ?_); (repeat (first | (refine J.opI rfl rfl ?_; refine wo ?_) | refine J.nilI ?_ | refine J.thenN ?_ | refine J.seqI ?_ | refine J.regionI ?_ | refine J.skipI ?_ | refine J.blockI ?_ | refine J.inN ?_)); exact h.out) : G := w ⟨h⟩
theorem J.nm {H' : Hs} (h : J c X S H') (hH : H = H' := by exact nrm) : J c X S H := J.norm hH h
theorem J.or (is : List Nat) (n : Nat) {R : Hs} (h : J c X S R) (hn : H.length = n := by rfl) (hp : is.Perm (List.range n) := by decide) (hR : pickAt is H = R := by first | (dsimp only [pickAt, List.set, splice, List.take, List.drop, List.length, List.append, List.nil_append, List.append_nil, List.cons_append, List.eraseIdx, List.filterMap, Nat.reduceAdd, Nat.reduceMul, Int.reduceToNat, Int.toNat_natCast, Nat.zero_add, Nat.add_zero]; done) | exact rfl) : J c X S H := J.ord is n hn hp (J.norm hR h)
theorem J.pn {d : Nat} {v : Value} {H' : Hs} (h : J c K ((d, v) :: S) H') (hn : Nat.blt d c.n = true := by rfl) (hH : H = H' := by exact nrm) : J c (PW K (some d) v) S H := J.put hn (J.norm hH h)
theorem J.hd {T : Hs} (h : J c X S H) (hT : Sub T H := by repeat (first | exact Sub.nil | refine Sub.cons 0 rfl ?_ | refine Sub.cons 1 rfl ?_ | refine Sub.cons 2 rfl ?_ | refine Sub.cons 3 rfl ?_ | refine Sub.cons 4 rfl ?_ | refine Sub.cons 5 rfl ?_ | refine Sub.cons 6 rfl ?_ | refine Sub.cons 7 rfl ?_ | refine Sub.cons 8 rfl ?_ | refine Sub.cons 9 rfl ?_ | refine Sub.cons 10 rfl ?_ | refine Sub.cons 11 rfl ?_ | refine Sub.cons 12 rfl ?_ | refine Sub.cons 13 rfl ?_ | refine Sub.cons 14 rfl ?_ | refine Sub.cons 15 rfl ?_ | refine Sub.cons 16 rfl ?_ | refine Sub.cons 17 rfl ?_ | refine Sub.cons 18 rfl ?_ | refine Sub.cons 19 rfl ?_ | refine Sub.cons 20 rfl ?_ | refine Sub.cons 21 rfl ?_ | refine Sub.cons 22 rfl ?_ | refine Sub.cons 23 rfl ?_)) : J c (HW T.flatten X) S H := J.held hT h
theorem tookBy {H1 F : Hs} (h : Took H1 H F := by repeat (first | exact Took.nil | (apply Took.cons; (focus (repeat (first | exact Pull.here | apply Pull.there)))))) : Took H1 H F := h
/-- These pieces, the others forgotten. -/
theorem J.to {F : Hs} (H' : Hs) (h : J c X S H') (hT : Took H' H F := by exact tookBy) : J c X S H := fun a w hf hs => h a w hf ((hs.perm hT.perm.flatten).sub (by rw [List.flatten_append]; exact List.sublist_append_left _ _))
/-- These pieces ahead of the others. -/
theorem J.fr {F : Hs} (H' : Hs) {R : Hs} (h : J c X S R) (hT : Took H' H F := by exact tookBy) (hR : H' ++ F = R := by exact nrm) : J c X S H := fun a w hf hs => h a w hf (by rw [← hR]; exact hs.perm hT.perm.flatten)
/-- A call of a named function by its contract: its blocks stand anywhere. -/
theorem J.callT {f : FuncId} {fn : Func} {xs : Array Operand} {ats : Array TypeId} {ty : TypeId} {pos : String} {after : Array Edge} {g : Option (Nat × Bool)} {dst : Option Nat}
    {args : List Value} {H1 F : Hs} {Post : Value → Hs → Prop} (spec : Sp P f args.toArray H1 Post) (h : ∀ v H', Post v H' → J c (PW K dst v) S (H' ++ F)) (hT : Took H1 H F := by exact tookBy) (hargs : xs.toList.map (ev S) = args.map some := by rfl)
    (hf : P.funcs[f]? = some fn := by rfl) (hb : fn.body.isNone = false := by rfl) (hn : (fn.name == "runtime.NumGoroutine") = false := by rfl) :
    J c (OW P ⟨dst, .call { callee := .value (.func f), args := xs, argTypes := ats }, ty, pos, after, g⟩ K Q) S H := J.perm hT.perm (J.call spec hargs hf hb hn h)
/-- The same, the next operation of a list. -/
theorem J.cl {f : FuncId} {fn : Func} {xs : Array Operand} {ats : Array TypeId} {ty : TypeId} {pos : String} {after : Array Edge} {dst : Option Nat}
    {args : List Value} {H1 F : Hs} {Post : Value → Hs → Prop} (spec : Sp P f args.toArray H1 Post) (h : ∀ v H', Post v H' → J c (PW (LW P ops Q rest) dst v) S (H' ++ F)) (hT : Took H1 H F := by exact tookBy) (hargs : xs.toList.map (ev S) = args.map some := by rfl)
    (hf : P.funcs[f]? = some fn := by rfl) (hb : fn.body.isNone = false := by rfl) (hn : (fn.name == "runtime.NumGoroutine") = false := by rfl) :
    J c (LW P ops Q (⟨dst, .call { callee := .value (.func f), args := xs, argTypes := ats }, ty, pos, after, none⟩ :: rest)) S H := J.op rfl (J.callT spec h hT hargs hf hb hn)
theorem J.roundT {α : Type} {Sx : α → Slots} {Hx : α → Hs} {Px : α → Prop} {μ : α → Nat} {m : Nat} {F : Hs} (z : α) (hz : Px z) (hm : μ z < m) (hS : ∀ t v, (Sx z).get t = some v → S.get t = some v := by exact fun _ _ h => h) (hT : Took (Hx z) H F := by exact tookBy) :
    J c (RW c Sx Hx Px μ m) S H := J.to (Hx z) (J.round z hz hm hS rfl) hT
theorem J.midT {α : Type} {Sx : α → Slots} {Hx : α → Hs} {Px : α → Prop} {F : Hs} (z : α) (hz : Px z) (hS : ∀ t v, (Sx z).get t = some v → S.get t = some v := by exact fun _ _ h => h) (hT : Took (Hx z) H F := by exact tookBy) :
    J c (MW c Sx Hx Px) S H := J.to (Hx z) (J.mid z hz hS rfl) hT
theorem J.doneT {fn : Func} {Post : Value → Hs → Prop} {v : Value} {H' F : Hs} (hr : ∀ a w, Fr a c.n S → St c.w0 c.K0 w H'.flatten → (results fn a.tmps).run P w = .ok v w) (hp : Post v H') (hT : Took H' H F := by exact tookBy) :
    J c (XW (bodyPost P fn (Ret c.w0 c.K0 Post)) .ret) S H := J.to H' (J.done_ret hr hp) hT
theorem J.doneNT {fn : Func} {Post : Value → Hs → Prop} {v : Value} {H' F : Hs} (hr : ∀ a w, Fr a c.n S → St c.w0 c.K0 w H'.flatten → (results fn a.tmps).run P w = .ok v w) (hp : Post v H') (hT : Took H' H F := by exact tookBy) :
    J c (XW (bodyPost P fn (Ret c.w0 c.K0 Post)) .normal) S H := J.to H' (J.done hr hp) hT
theorem subBy {T : Hs} (h : Sub T H := by repeat (first | exact Sub.nil | refine Sub.cons 0 rfl ?_ | refine Sub.cons 1 rfl ?_ | refine Sub.cons 2 rfl ?_ | refine Sub.cons 3 rfl ?_ | refine Sub.cons 4 rfl ?_ | refine Sub.cons 5 rfl ?_ | refine Sub.cons 6 rfl ?_ | refine Sub.cons 7 rfl ?_ | refine Sub.cons 8 rfl ?_ | refine Sub.cons 9 rfl ?_ | refine Sub.cons 10 rfl ?_ | refine Sub.cons 11 rfl ?_ | refine Sub.cons 12 rfl ?_ | refine Sub.cons 13 rfl ?_ | refine Sub.cons 14 rfl ?_ | refine Sub.cons 15 rfl ?_ | refine Sub.cons 16 rfl ?_ | refine Sub.cons 17 rfl ?_ | refine Sub.cons 18 rfl ?_ | refine Sub.cons 19 rfl ?_ | refine Sub.cons 20 rfl ?_ | refine Sub.cons 21 rfl ?_ | refine Sub.cons 22 rfl ?_ | refine Sub.cons 23 rfl ?_)) : Sub T H := h
theorem J.tk {T : Hs} (i : Nat) {oi : Oper} {fuel : Nat} {listed : Array Bool} {d : Nat} {v : Value} (h : J c (AW P ops Q Holds T.flatten fuel (listed.setIfInBounds i true)) ((d, v) :: S) H) (hi : nth ops.toList i = some oi := by rfl) (hs : canTake ops listed i = true := by kernel_rfl) (hg : oi.guard = none := by rfl) (hT : Sub T H := by exact subBy) (hQ : ∀ ch a w (d : Nat) v, Q (.panic ch) (a.put (some d) v) w → Q (.panic ch) a w := by exact fun _ _ _ _ _ h => h) (hd : oi.dst = some d := by rfl) (hn : Nat.blt d c.n = true := by rfl) (hv : Gives P c.n oi v S T := by exact Gives.byA) :
    J c (AW P ops Q Holds T.flatten (fuel + 1) listed) S H := J.take i (nth_eq hi) hs hQ hg hT (J.giveT hv hd hn h)
theorem J.tkO {T : Hs} (i : Nat) {oi : Oper} {fuel : Nat} {listed : Array Bool} (h : J c (OT P T.flatten oi (AW P ops Q Holds T.flatten fuel (listed.setIfInBounds i true))) S H) (hi : nth ops.toList i = some oi := by rfl) (hs : canTake ops listed i = true := by kernel_rfl) (hg : oi.guard = none := by rfl) (hT : Sub T H := by exact subBy) (hQ : ∀ ch a w (d : Nat) v, Q (.panic ch) (a.put (some d) v) w → Q (.panic ch) a w := by exact fun _ _ _ _ _ h => h) :
    J c (AW P ops Q Holds T.flatten (fuel + 1) listed) S H := J.take i (nth_eq hi) hs hQ hg hT h
theorem J.tkW {T : Hs} (i : Nat) {oi : Oper} {fuel : Nat} {listed : Array Bool} {j dj : Nat} {t : Bool} {d : Nat} {v : Value} (h : J c (AW P ops Q Holds T.flatten fuel (listed.setIfInBounds i true)) ((d, v) :: S) H) (hi : nth ops.toList i = some oi := by rfl) (hs : canTake ops listed i = true := by kernel_rfl) (hg : oi.guard = some (j, t) := by rfl) (hdj : (ops[j]?).bind (·.dst) = some dj := by rfl) (hsj : S.get dj = some (.bool t) := by rfl) (hT : Sub T H := by exact subBy) (hQ : ∀ ch a w (d : Nat) v, Q (.panic ch) (a.put (some d) v) w → Q (.panic ch) a w := by exact fun _ _ _ _ _ h => h) (hd : oi.dst = some d := by rfl) (hn : Nat.blt d c.n = true := by rfl) (hv : Gives P c.n oi v S T := by exact Gives.byA) :
    J c (AW P ops Q Holds T.flatten (fuel + 1) listed) S H := J.takeW i (nth_eq hi) hs hQ hg hdj hsj hT (J.giveT hv hd hn h)
theorem J.tkWO {T : Hs} (i : Nat) {oi : Oper} {fuel : Nat} {listed : Array Bool} {j dj : Nat} {t : Bool} (h : J c (OT P T.flatten oi (AW P ops Q Holds T.flatten fuel (listed.setIfInBounds i true))) S H) (hi : nth ops.toList i = some oi := by rfl) (hs : canTake ops listed i = true := by kernel_rfl) (hg : oi.guard = some (j, t) := by rfl) (hdj : (ops[j]?).bind (·.dst) = some dj := by rfl) (hsj : S.get dj = some (.bool t) := by rfl) (hT : Sub T H := by exact subBy) (hQ : ∀ ch a w (d : Nat) v, Q (.panic ch) (a.put (some d) v) w → Q (.panic ch) a w := by exact fun _ _ _ _ _ h => h) :
    J c (AW P ops Q Holds T.flatten (fuel + 1) listed) S H := J.takeW i (nth_eq hi) hs hQ hg hdj hsj hT h
theorem J.tkE {T : Hs} (i : Nat) {oi : Oper} {fuel : Nat} {listed : Array Bool} {j dj : Nat} {t : Bool} {u : Bool} {d : Nat} {v : Value} (h : J c (AW P ops Q Holds T.flatten fuel (listed.setIfInBounds i true)) ((d, v) :: (dj, .bool t) :: S) H) (hi : nth ops.toList i = some oi := by rfl) (hs : canTake ops listed i = true := by kernel_rfl) (hg : oi.guard = some (j, t) := by rfl) (hdj : (ops[j]?).bind (·.dst) = some dj := by rfl) (hsj : S.get dj = some (.bool u) := by rfl) (hu : u = t := by exact dec) (hT : Sub T H := by exact subBy) (hQ : ∀ ch a w (d : Nat) v, Q (.panic ch) (a.put (some d) v) w → Q (.panic ch) a w := by exact fun _ _ _ _ _ h => h) (hd : oi.dst = some d := by rfl) (hn : Nat.blt d c.n = true := by rfl) (hv : Gives P c.n oi v ((dj, .bool t) :: S) T := by exact Gives.byA) :
    J c (AW P ops Q Holds T.flatten (fuel + 1) listed) S H := J.slot dj (.bool t) hsj (congrArg Value.bool hu) (J.takeW i (nth_eq hi) hs hQ hg hdj (by rw [Slots.get_cons, if_pos rfl]) hT (J.giveT hv hd hn h))
theorem J.tkEO {T : Hs} (i : Nat) {oi : Oper} {fuel : Nat} {listed : Array Bool} {j dj : Nat} {t : Bool} {u : Bool} (h : J c (OT P T.flatten oi (AW P ops Q Holds T.flatten fuel (listed.setIfInBounds i true))) ((dj, .bool t) :: S) H) (hi : nth ops.toList i = some oi := by rfl) (hs : canTake ops listed i = true := by kernel_rfl) (hg : oi.guard = some (j, t) := by rfl) (hdj : (ops[j]?).bind (·.dst) = some dj := by rfl) (hsj : S.get dj = some (.bool u) := by rfl) (hu : u = t := by exact dec) (hT : Sub T H := by exact subBy) (hQ : ∀ ch a w (d : Nat) v, Q (.panic ch) (a.put (some d) v) w → Q (.panic ch) a w := by exact fun _ _ _ _ _ h => h) :
    J c (AW P ops Q Holds T.flatten (fuel + 1) listed) S H := J.slot dj (.bool t) hsj (congrArg Value.bool hu) (J.takeW i (nth_eq hi) hs hQ hg hdj (by rw [Slots.get_cons, if_pos rfl]) hT h)
theorem J.tkN {T : Hs} (i : Nat) {oi : Oper} {fuel : Nat} {listed : Array Bool} {j dj : Nat} {t : Bool} {u : Bool} {d : Nat} (h : J c (AW P ops Q Holds T.flatten fuel (listed.setIfInBounds i true)) ((d, undef) :: S) H) (hi : nth ops.toList i = some oi := by rfl) (hs : canTake ops listed i = true := by kernel_rfl) (hg : oi.guard = some (j, t) := by rfl) (hdj : (ops[j]?).bind (·.dst) = some dj := by rfl) (hsj : S.get dj = some (.bool u) := by rfl) (hne : (u == t) = false := by rfl) (hT : Sub T H := by exact subBy) (hQ : ∀ ch a w (d : Nat) v, Q (.panic ch) (a.put (some d) v) w → Q (.panic ch) a w := by exact fun _ _ _ _ _ h => h) (hd : oi.dst = some d := by rfl) (hn : Nat.blt d c.n = true := by rfl) :
    J c (AW P ops Q Holds T.flatten (fuel + 1) listed) S H := J.takeN i (nth_eq hi) hd hn hs hQ hg hdj hsj hne hT h
theorem J.tkX {T : Hs} (i : Nat) {oi : Oper} {fuel : Nat} {listed : Array Bool} {j dj : Nat} {t : Bool} {u t' : Bool} {d : Nat} (h : J c (AW P ops Q Holds T.flatten fuel (listed.setIfInBounds i true)) ((d, undef) :: (dj, .bool t') :: S) H) (hi : nth ops.toList i = some oi := by rfl) (hs : canTake ops listed i = true := by kernel_rfl) (hg : oi.guard = some (j, t) := by rfl) (hdj : (ops[j]?).bind (·.dst) = some dj := by rfl) (hsj : S.get dj = some (.bool u) := by rfl) (ht : (!t) = t' := by rfl) (hu : u = t' := by exact dec) (hT : Sub T H := by exact subBy) (hQ : ∀ ch a w (d : Nat) v, Q (.panic ch) (a.put (some d) v) w → Q (.panic ch) a w := by exact fun _ _ _ _ _ h => h) (hd : oi.dst = some d := by rfl) (hn : Nat.blt d c.n = true := by rfl) :
    J c (AW P ops Q Holds T.flatten (fuel + 1) listed) S H := J.slot dj (.bool t') hsj (congrArg Value.bool hu) (J.takeN i (nth_eq hi) hd hn hs hQ hg hdj (by rw [Slots.get_cons, if_pos rfl]) (by rw [← ht]; cases t <;> rfl) hT h)
theorem J.tkU {T : Hs} (i : Nat) {oi : Oper} {fuel : Nat} {listed : Array Bool} {j dj : Nat} {t : Bool} {d : Nat} (h : J c (AW P ops Q Holds T.flatten fuel (listed.setIfInBounds i true)) ((d, undef) :: S) H) (hi : nth ops.toList i = some oi := by rfl) (hs : canTake ops listed i = true := by kernel_rfl) (hg : oi.guard = some (j, t) := by rfl) (hdj : (ops[j]?).bind (·.dst) = some dj := by rfl) (hsj : S.get dj = some undef := by rfl) (hT : Sub T H := by exact subBy) (hQ : ∀ ch a w (d : Nat) v, Q (.panic ch) (a.put (some d) v) w → Q (.panic ch) a w := by exact fun _ _ _ _ _ h => h) (hd : oi.dst = some d := by rfl) (hn : Nat.blt d c.n = true := by rfl) :
    J c (AW P ops Q Holds T.flatten (fuel + 1) listed) S H := J.takeU i (nth_eq hi) hd hn hs hQ hg hdj hsj hT h
theorem J.on {T : Hs} (i : Nat) {oi : Oper} {fuel : Nat} {listed : Array Bool} (h : J c (OW P oi (HW T.flatten (AW P ops Q Holds T.flatten fuel (listed.setIfInBounds i true))) Q) S H) (hr : Region.ready .any ops listed = [i] := by kernel_rfl) (hi : nth ops.toList i = some oi := by rfl) (hg : oi.guard = none := by rfl) :
    J c (AW P ops Q Holds T.flatten (fuel + 1) listed) S H := J.one i hr (nth_eq hi) hg h
theorem J.onW {T : Hs} (i : Nat) {oi : Oper} {fuel : Nat} {listed : Array Bool} {j dj : Nat} {t : Bool} (h : J c (OW P oi (HW T.flatten (AW P ops Q Holds T.flatten fuel (listed.setIfInBounds i true))) Q) S H) (hr : Region.ready .any ops listed = [i] := by kernel_rfl) (hi : nth ops.toList i = some oi := by rfl) (hg : oi.guard = some (j, t) := by rfl) (hdj : (ops[j]?).bind (·.dst) = some dj := by rfl) (hsj : S.get dj = some (.bool t) := by rfl) :
    J c (AW P ops Q Holds T.flatten (fuel + 1) listed) S H := J.oneW i hr (nth_eq hi) hg hdj hsj h
theorem J.onE {T : Hs} (i : Nat) {oi : Oper} {fuel : Nat} {listed : Array Bool} {j dj : Nat} {t : Bool} {u : Bool} (h : J c (OW P oi (HW T.flatten (AW P ops Q Holds T.flatten fuel (listed.setIfInBounds i true))) Q) ((dj, .bool t) :: S) H) (hr : Region.ready .any ops listed = [i] := by kernel_rfl) (hi : nth ops.toList i = some oi := by rfl) (hg : oi.guard = some (j, t) := by rfl) (hdj : (ops[j]?).bind (·.dst) = some dj := by rfl) (hsj : S.get dj = some (.bool u) := by rfl) (hu : u = t := by exact dec) :
    J c (AW P ops Q Holds T.flatten (fuel + 1) listed) S H := J.slot dj (.bool t) hsj (congrArg Value.bool hu) (J.oneW i hr (nth_eq hi) hg hdj (by rw [Slots.get_cons, if_pos rfl]) h)
theorem J.al {T : Hs} {fuel : Nat} {listed : Array Bool} (h : J c (XW Q .normal) S H) (hr : Region.ready .any ops listed = [] := by kernel_rfl) :
    J c (AW P ops Q Holds T.flatten fuel listed) S H := J.all hr h
theorem J.tkK {T : Hs} {k : Nat} (i : Nat) {oi : Oper} {m : Nat} {l : Array Bool} (L : List Nat) {d : Nat} {v : Value} (h : J c (AK P ops Q T.flatten k m (l.setIfInBounds i true)) ((d, v) :: S) H) (hi : nth ops.toList i = some oi := by rfl) (hs : canTake ops l i = true := by kernel_rfl) (hL : (late ops L i && none_of l L && L.contains k && !Nat.beq k i) = true := by kernel_rfl) (hg : oi.guard = none := by rfl) (hT : Sub T H := by exact subBy) (hQ : ∀ ch a w (d : Nat) v, Q (.panic ch) (a.put (some d) v) w → Q (.panic ch) a w := by exact fun _ _ _ _ _ h => h) (hd : oi.dst = some d := by rfl) (hn : Nat.blt d c.n = true := by rfl) (hv : Gives P c.n oi v S T := by exact Gives.byA) :
    J c (AK P ops Q T.flatten k (m + 1) l) S H := J.takeK i L (nth_eq hi) hs hL hQ hg hT (J.giveT hv hd hn h)
theorem J.tkKO {T : Hs} {k : Nat} (i : Nat) {oi : Oper} {m : Nat} {l : Array Bool} (L : List Nat) (h : J c (OT P T.flatten oi (AK P ops Q T.flatten k m (l.setIfInBounds i true))) S H) (hi : nth ops.toList i = some oi := by rfl) (hs : canTake ops l i = true := by kernel_rfl) (hL : (late ops L i && none_of l L && L.contains k && !Nat.beq k i) = true := by kernel_rfl) (hg : oi.guard = none := by rfl) (hT : Sub T H := by exact subBy) (hQ : ∀ ch a w (d : Nat) v, Q (.panic ch) (a.put (some d) v) w → Q (.panic ch) a w := by exact fun _ _ _ _ _ h => h) :
    J c (AK P ops Q T.flatten k (m + 1) l) S H := J.takeK i L (nth_eq hi) hs hL hQ hg hT h
theorem J.tkKE {T : Hs} {k : Nat} (i : Nat) {oi : Oper} {m : Nat} {l : Array Bool} (L : List Nat) {j dj : Nat} {t u : Bool} {d : Nat} {v : Value} (h : J c (AK P ops Q T.flatten k m (l.setIfInBounds i true)) ((d, v) :: (dj, .bool t) :: S) H) (hi : nth ops.toList i = some oi := by rfl) (hs : canTake ops l i = true := by kernel_rfl) (hL : (late ops L i && none_of l L && L.contains k && !Nat.beq k i) = true := by kernel_rfl) (hg : oi.guard = some (j, t) := by rfl) (hdj : (ops[j]?).bind (·.dst) = some dj := by rfl) (hsj : S.get dj = some (.bool u) := by rfl) (hu : u = t := by first | rfl | exact dec) (hT : Sub T H := by exact subBy) (hQ : ∀ ch a w (d : Nat) v, Q (.panic ch) (a.put (some d) v) w → Q (.panic ch) a w := by exact fun _ _ _ _ _ h => h) (hd : oi.dst = some d := by rfl) (hn : Nat.blt d c.n = true := by rfl) (hv : Gives P c.n oi v ((dj, .bool t) :: S) T := by exact Gives.byA) :
    J c (AK P ops Q T.flatten k (m + 1) l) S H := J.slot dj (.bool t) hsj (congrArg Value.bool hu) (J.takeKW i L (nth_eq hi) hs hL hQ hg hdj (by rw [Slots.get_cons, if_pos rfl]) hT (J.giveT hv hd hn h))
theorem J.tkKEO {T : Hs} {k : Nat} (i : Nat) {oi : Oper} {m : Nat} {l : Array Bool} (L : List Nat) {j dj : Nat} {t u : Bool} (h : J c (OT P T.flatten oi (AK P ops Q T.flatten k m (l.setIfInBounds i true))) ((dj, .bool t) :: S) H) (hi : nth ops.toList i = some oi := by rfl) (hs : canTake ops l i = true := by kernel_rfl) (hL : (late ops L i && none_of l L && L.contains k && !Nat.beq k i) = true := by kernel_rfl) (hg : oi.guard = some (j, t) := by rfl) (hdj : (ops[j]?).bind (·.dst) = some dj := by rfl) (hsj : S.get dj = some (.bool u) := by rfl) (hu : u = t := by first | rfl | exact dec) (hT : Sub T H := by exact subBy) (hQ : ∀ ch a w (d : Nat) v, Q (.panic ch) (a.put (some d) v) w → Q (.panic ch) a w := by exact fun _ _ _ _ _ h => h) :
    J c (AK P ops Q T.flatten k (m + 1) l) S H := J.slot dj (.bool t) hsj (congrArg Value.bool hu) (J.takeKW i L (nth_eq hi) hs hL hQ hg hdj (by rw [Slots.get_cons, if_pos rfl]) hT h)
theorem J.tkF {T : Hs} {k : Nat} (i : Nat) {oi : Oper} {m : Nat} {l : Array Bool} {d : Nat} {v : Value} (h : J c (AK P ops Q T.flatten k m (l.setIfInBounds i true)) ((d, v) :: S) H) (hi : nth ops.toList i = some oi := by rfl) (hs : canTake ops l i = true := by kernel_rfl) (hL : (none_of l [i] && !Nat.beq k i) = true := by kernel_rfl) (hg : oi.guard = none := by rfl) (hT : Cur T H k l := by first | (refine Cur.sub ?_; (repeat (first | exact Sub.nil | refine Sub.cons 0 rfl ?_ | refine Sub.cons 1 rfl ?_ | refine Sub.cons 2 rfl ?_ | refine Sub.cons 3 rfl ?_ | refine Sub.cons 4 rfl ?_ | refine Sub.cons 5 rfl ?_ | refine Sub.cons 6 rfl ?_ | refine Sub.cons 7 rfl ?_ | refine Sub.cons 8 rfl ?_ | refine Sub.cons 9 rfl ?_ | refine Sub.cons 10 rfl ?_ | refine Sub.cons 11 rfl ?_ | refine Sub.cons 12 rfl ?_ | refine Sub.cons 13 rfl ?_ | refine Sub.cons 14 rfl ?_ | refine Sub.cons 15 rfl ?_ | refine Sub.cons 16 rfl ?_ | refine Sub.cons 17 rfl ?_ | refine Sub.cons 18 rfl ?_ | refine Sub.cons 19 rfl ?_ | refine Sub.cons 20 rfl ?_ | refine Sub.cons 21 rfl ?_ | refine Sub.cons 22 rfl ?_ | refine Sub.cons 23 rfl ?_)); done) | exact Cur.past (by kernel_rfl)) (hQ : ∀ ch a w (d : Nat) v, Q (.panic ch) (a.put (some d) v) w → Q (.panic ch) a w := by exact fun _ _ _ _ _ h => h) (hd : oi.dst = some d := by rfl) (hn : Nat.blt d c.n = true := by rfl) (hv : Gives P c.n oi v S [] := by exact Gives.byA) :
    J c (AK P ops Q T.flatten k (m + 1) l) S H := J.takeF i (nth_eq hi) hs hL hQ hg hT (J.giveT hv hd hn h)
theorem J.tkFO {T : Hs} {k : Nat} (i : Nat) {oi : Oper} {m : Nat} {l : Array Bool} (h : J c (OT P ([] : Hs).flatten oi (AK P ops Q T.flatten k m (l.setIfInBounds i true))) S H) (hi : nth ops.toList i = some oi := by rfl) (hs : canTake ops l i = true := by kernel_rfl) (hL : (none_of l [i] && !Nat.beq k i) = true := by kernel_rfl) (hg : oi.guard = none := by rfl) (hT : Cur T H k l := by first | (refine Cur.sub ?_; (repeat (first | exact Sub.nil | refine Sub.cons 0 rfl ?_ | refine Sub.cons 1 rfl ?_ | refine Sub.cons 2 rfl ?_ | refine Sub.cons 3 rfl ?_ | refine Sub.cons 4 rfl ?_ | refine Sub.cons 5 rfl ?_ | refine Sub.cons 6 rfl ?_ | refine Sub.cons 7 rfl ?_ | refine Sub.cons 8 rfl ?_ | refine Sub.cons 9 rfl ?_ | refine Sub.cons 10 rfl ?_ | refine Sub.cons 11 rfl ?_ | refine Sub.cons 12 rfl ?_ | refine Sub.cons 13 rfl ?_ | refine Sub.cons 14 rfl ?_ | refine Sub.cons 15 rfl ?_ | refine Sub.cons 16 rfl ?_ | refine Sub.cons 17 rfl ?_ | refine Sub.cons 18 rfl ?_ | refine Sub.cons 19 rfl ?_ | refine Sub.cons 20 rfl ?_ | refine Sub.cons 21 rfl ?_ | refine Sub.cons 22 rfl ?_ | refine Sub.cons 23 rfl ?_)); done) | exact Cur.past (by kernel_rfl)) (hQ : ∀ ch a w (d : Nat) v, Q (.panic ch) (a.put (some d) v) w → Q (.panic ch) a w := by exact fun _ _ _ _ _ h => h) :
    J c (AK P ops Q T.flatten k (m + 1) l) S H := J.takeF i (nth_eq hi) hs hL hQ hg hT h
theorem J.tkFE {T : Hs} {k : Nat} (i : Nat) {oi : Oper} {m : Nat} {l : Array Bool} {j dj : Nat} {t u : Bool} {d : Nat} {v : Value} (h : J c (AK P ops Q T.flatten k m (l.setIfInBounds i true)) ((d, v) :: (dj, .bool t) :: S) H) (hi : nth ops.toList i = some oi := by rfl) (hs : canTake ops l i = true := by kernel_rfl) (hL : (none_of l [i] && !Nat.beq k i) = true := by kernel_rfl) (hg : oi.guard = some (j, t) := by rfl) (hdj : (ops[j]?).bind (·.dst) = some dj := by rfl) (hsj : S.get dj = some (.bool u) := by rfl) (hu : u = t := by first | rfl | exact dec) (hT : Cur T H k l := by first | (refine Cur.sub ?_; (repeat (first | exact Sub.nil | refine Sub.cons 0 rfl ?_ | refine Sub.cons 1 rfl ?_ | refine Sub.cons 2 rfl ?_ | refine Sub.cons 3 rfl ?_ | refine Sub.cons 4 rfl ?_ | refine Sub.cons 5 rfl ?_ | refine Sub.cons 6 rfl ?_ | refine Sub.cons 7 rfl ?_ | refine Sub.cons 8 rfl ?_ | refine Sub.cons 9 rfl ?_ | refine Sub.cons 10 rfl ?_ | refine Sub.cons 11 rfl ?_ | refine Sub.cons 12 rfl ?_ | refine Sub.cons 13 rfl ?_ | refine Sub.cons 14 rfl ?_ | refine Sub.cons 15 rfl ?_ | refine Sub.cons 16 rfl ?_ | refine Sub.cons 17 rfl ?_ | refine Sub.cons 18 rfl ?_ | refine Sub.cons 19 rfl ?_ | refine Sub.cons 20 rfl ?_ | refine Sub.cons 21 rfl ?_ | refine Sub.cons 22 rfl ?_ | refine Sub.cons 23 rfl ?_)); done) | exact Cur.past (by kernel_rfl)) (hQ : ∀ ch a w (d : Nat) v, Q (.panic ch) (a.put (some d) v) w → Q (.panic ch) a w := by exact fun _ _ _ _ _ h => h) (hd : oi.dst = some d := by rfl) (hn : Nat.blt d c.n = true := by rfl) (hv : Gives P c.n oi v ((dj, .bool t) :: S) [] := by exact Gives.byA) :
    J c (AK P ops Q T.flatten k (m + 1) l) S H := J.slot dj (.bool t) hsj (congrArg Value.bool hu) (J.takeFW i (nth_eq hi) hs hL hQ hg hdj (by rw [Slots.get_cons, if_pos rfl]) hT (J.giveT hv hd hn h))
theorem J.tkFEO {T : Hs} {k : Nat} (i : Nat) {oi : Oper} {m : Nat} {l : Array Bool} {j dj : Nat} {t u : Bool} (h : J c (OT P ([] : Hs).flatten oi (AK P ops Q T.flatten k m (l.setIfInBounds i true))) ((dj, .bool t) :: S) H) (hi : nth ops.toList i = some oi := by rfl) (hs : canTake ops l i = true := by kernel_rfl) (hL : (none_of l [i] && !Nat.beq k i) = true := by kernel_rfl) (hg : oi.guard = some (j, t) := by rfl) (hdj : (ops[j]?).bind (·.dst) = some dj := by rfl) (hsj : S.get dj = some (.bool u) := by rfl) (hu : u = t := by first | rfl | exact dec) (hT : Cur T H k l := by first | (refine Cur.sub ?_; (repeat (first | exact Sub.nil | refine Sub.cons 0 rfl ?_ | refine Sub.cons 1 rfl ?_ | refine Sub.cons 2 rfl ?_ | refine Sub.cons 3 rfl ?_ | refine Sub.cons 4 rfl ?_ | refine Sub.cons 5 rfl ?_ | refine Sub.cons 6 rfl ?_ | refine Sub.cons 7 rfl ?_ | refine Sub.cons 8 rfl ?_ | refine Sub.cons 9 rfl ?_ | refine Sub.cons 10 rfl ?_ | refine Sub.cons 11 rfl ?_ | refine Sub.cons 12 rfl ?_ | refine Sub.cons 13 rfl ?_ | refine Sub.cons 14 rfl ?_ | refine Sub.cons 15 rfl ?_ | refine Sub.cons 16 rfl ?_ | refine Sub.cons 17 rfl ?_ | refine Sub.cons 18 rfl ?_ | refine Sub.cons 19 rfl ?_ | refine Sub.cons 20 rfl ?_ | refine Sub.cons 21 rfl ?_ | refine Sub.cons 22 rfl ?_ | refine Sub.cons 23 rfl ?_)); done) | exact Cur.past (by kernel_rfl)) (hQ : ∀ ch a w (d : Nat) v, Q (.panic ch) (a.put (some d) v) w → Q (.panic ch) a w := by exact fun _ _ _ _ _ h => h) :
    J c (AK P ops Q T.flatten k (m + 1) l) S H := J.slot dj (.bool t) hsj (congrArg Value.bool hu) (J.takeFW i (nth_eq hi) hs hL hQ hg hdj (by rw [Slots.get_cons, if_pos rfl]) hT h)
theorem J.tkFN {T : Hs} {k : Nat} (i : Nat) {oi : Oper} {m : Nat} {l : Array Bool} {j dj : Nat} {t u t' : Bool} {d : Nat} (h : J c (AK P ops Q T.flatten k m (l.setIfInBounds i true)) ((d, undef) :: (dj, .bool t') :: S) H) (hi : nth ops.toList i = some oi := by rfl) (hs : canTake ops l i = true := by kernel_rfl) (hL : (none_of l [i] && !Nat.beq k i) = true := by kernel_rfl) (hg : oi.guard = some (j, t) := by rfl) (hdj : (ops[j]?).bind (·.dst) = some dj := by rfl) (hsj : S.get dj = some (.bool u) := by rfl) (ht : (!t) = t' := by rfl) (hu : u = t' := by first | rfl | exact dec) (hT : Cur T H k l := by first | (refine Cur.sub ?_; (repeat (first | exact Sub.nil | refine Sub.cons 0 rfl ?_ | refine Sub.cons 1 rfl ?_ | refine Sub.cons 2 rfl ?_ | refine Sub.cons 3 rfl ?_ | refine Sub.cons 4 rfl ?_ | refine Sub.cons 5 rfl ?_ | refine Sub.cons 6 rfl ?_ | refine Sub.cons 7 rfl ?_ | refine Sub.cons 8 rfl ?_ | refine Sub.cons 9 rfl ?_ | refine Sub.cons 10 rfl ?_ | refine Sub.cons 11 rfl ?_ | refine Sub.cons 12 rfl ?_ | refine Sub.cons 13 rfl ?_ | refine Sub.cons 14 rfl ?_ | refine Sub.cons 15 rfl ?_ | refine Sub.cons 16 rfl ?_ | refine Sub.cons 17 rfl ?_ | refine Sub.cons 18 rfl ?_ | refine Sub.cons 19 rfl ?_ | refine Sub.cons 20 rfl ?_ | refine Sub.cons 21 rfl ?_ | refine Sub.cons 22 rfl ?_ | refine Sub.cons 23 rfl ?_)); done) | exact Cur.past (by kernel_rfl)) (hQ : ∀ ch a w (d : Nat) v, Q (.panic ch) (a.put (some d) v) w → Q (.panic ch) a w := by exact fun _ _ _ _ _ h => h) (hd : oi.dst = some d := by rfl) (hn : Nat.blt d c.n = true := by rfl) :
    J c (AK P ops Q T.flatten k (m + 1) l) S H := J.slot dj (.bool t') hsj (congrArg Value.bool hu) (J.takeFN i (nth_eq hi) hd hn hs hL hQ hg hdj (by rw [Slots.get_cons, if_pos rfl]) (by rw [← ht]; cases t <;> rfl) hT h)
theorem J.tkFU {T : Hs} {k : Nat} (i : Nat) {oi : Oper} {m : Nat} {l : Array Bool} {j dj : Nat} {t : Bool} {d : Nat} (h : J c (AK P ops Q T.flatten k m (l.setIfInBounds i true)) ((d, undef) :: S) H) (hi : nth ops.toList i = some oi := by rfl) (hs : canTake ops l i = true := by kernel_rfl) (hL : (none_of l [i] && !Nat.beq k i) = true := by kernel_rfl) (hg : oi.guard = some (j, t) := by rfl) (hdj : (ops[j]?).bind (·.dst) = some dj := by rfl) (hsj : S.get dj = some undef := by rfl) (hT : Cur T H k l := by first | (refine Cur.sub ?_; (repeat (first | exact Sub.nil | refine Sub.cons 0 rfl ?_ | refine Sub.cons 1 rfl ?_ | refine Sub.cons 2 rfl ?_ | refine Sub.cons 3 rfl ?_ | refine Sub.cons 4 rfl ?_ | refine Sub.cons 5 rfl ?_ | refine Sub.cons 6 rfl ?_ | refine Sub.cons 7 rfl ?_ | refine Sub.cons 8 rfl ?_ | refine Sub.cons 9 rfl ?_ | refine Sub.cons 10 rfl ?_ | refine Sub.cons 11 rfl ?_ | refine Sub.cons 12 rfl ?_ | refine Sub.cons 13 rfl ?_ | refine Sub.cons 14 rfl ?_ | refine Sub.cons 15 rfl ?_ | refine Sub.cons 16 rfl ?_ | refine Sub.cons 17 rfl ?_ | refine Sub.cons 18 rfl ?_ | refine Sub.cons 19 rfl ?_ | refine Sub.cons 20 rfl ?_ | refine Sub.cons 21 rfl ?_ | refine Sub.cons 22 rfl ?_ | refine Sub.cons 23 rfl ?_)); done) | exact Cur.past (by kernel_rfl)) (hQ : ∀ ch a w (d : Nat) v, Q (.panic ch) (a.put (some d) v) w → Q (.panic ch) a w := by exact fun _ _ _ _ _ h => h) (hd : oi.dst = some d := by rfl) (hn : Nat.blt d c.n = true := by rfl) :
    J c (AK P ops Q T.flatten k (m + 1) l) S H := J.takeFU i (nth_eq hi) hd hn hs hL hQ hg hdj hsj hT h
theorem J.onK {T : Hs} {k : Nat} (i : Nat) {oi : Oper} {m : Nat} {l : Array Bool} (h : J c (OW P oi (HK T.flatten k (l.setIfInBounds i true) (AK P ops Q T.flatten k m (l.setIfInBounds i true))) Q) S H) (hr : Region.ready .any ops l = [i] := by kernel_rfl) (hi : nth ops.toList i = some oi := by rfl) (hg : oi.guard = none := by rfl) :
    J c (AK P ops Q T.flatten k (m + 1) l) S H := J.oneK i hr (nth_eq hi) hg h
theorem J.onKE {T : Hs} {k : Nat} (i : Nat) {oi : Oper} {m : Nat} {l : Array Bool} {j dj : Nat} {t u : Bool} (h : J c (OW P oi (HK T.flatten k (l.setIfInBounds i true) (AK P ops Q T.flatten k m (l.setIfInBounds i true))) Q) ((dj, .bool t) :: S) H) (hr : Region.ready .any ops l = [i] := by kernel_rfl) (hi : nth ops.toList i = some oi := by rfl) (hg : oi.guard = some (j, t) := by rfl) (hdj : (ops[j]?).bind (·.dst) = some dj := by rfl) (hsj : S.get dj = some (.bool u) := by rfl) (hu : u = t := by first | rfl | exact dec) :
    J c (AK P ops Q T.flatten k (m + 1) l) S H := J.slot dj (.bool t) hsj (congrArg Value.bool hu) (J.oneKW i hr (nth_eq hi) hg hdj (by rw [Slots.get_cons, if_pos rfl]) h)
theorem J.alK {T : Hs} {k m : Nat} {l : Array Bool} (h : J c (XW Q .normal) S H) (hr : Region.ready .any ops l = [] := by kernel_rfl) :
    J c (AK P ops Q T.flatten k m l) S H := J.allK hr h
theorem J.tkP {T2 T : Hs} {k : Nat} (i : Nat) {oi : Oper} {m : Nat} {l : Array Bool} (L : List Nat) {d : Nat} {v : Value} (h : J c (AP P ops Q T2.flatten T.flatten k m (l.setIfInBounds i true)) ((d, v) :: S) H) (hi : nth ops.toList i = some oi := by rfl) (hs : canTake ops l i = true := by kernel_rfl) (hL : (late ops L i && none_of l L && L.contains k && !Nat.beq k i) = true := by kernel_rfl) (hg : oi.guard = none := by rfl) (hT2 : Sub T2 H := by exact subBy) (hT : Sub T H := by exact subBy) (hQ : ∀ ch a w (d : Nat) v, Q (.panic ch) (a.put (some d) v) w → Q (.panic ch) a w := by exact fun _ _ _ _ _ h => h) (hd : oi.dst = some d := by rfl) (hn : Nat.blt d c.n = true := by rfl) (hv : Gives P c.n oi v S T := by exact Gives.byA) :
    J c (AP P ops Q T2.flatten T.flatten k (m + 1) l) S H := J.takeP i L (nth_eq hi) hs hL hQ hg hT2 hT (J.giveT hv hd hn h)
theorem J.tkPO {T2 T : Hs} {k : Nat} (i : Nat) {oi : Oper} {m : Nat} {l : Array Bool} (L : List Nat) (h : J c (OT P T.flatten oi (AP P ops Q T2.flatten T.flatten k m (l.setIfInBounds i true))) S H) (hi : nth ops.toList i = some oi := by rfl) (hs : canTake ops l i = true := by kernel_rfl) (hL : (late ops L i && none_of l L && L.contains k && !Nat.beq k i) = true := by kernel_rfl) (hg : oi.guard = none := by rfl) (hT2 : Sub T2 H := by exact subBy) (hT : Sub T H := by exact subBy) (hQ : ∀ ch a w (d : Nat) v, Q (.panic ch) (a.put (some d) v) w → Q (.panic ch) a w := by exact fun _ _ _ _ _ h => h) :
    J c (AP P ops Q T2.flatten T.flatten k (m + 1) l) S H := J.takeP i L (nth_eq hi) hs hL hQ hg hT2 hT h
theorem J.tkPE {T2 T : Hs} {k : Nat} (i : Nat) {oi : Oper} {m : Nat} {l : Array Bool} (L : List Nat) {j dj : Nat} {t u : Bool} {d : Nat} {v : Value} (h : J c (AP P ops Q T2.flatten T.flatten k m (l.setIfInBounds i true)) ((d, v) :: (dj, .bool t) :: S) H) (hi : nth ops.toList i = some oi := by rfl) (hs : canTake ops l i = true := by kernel_rfl) (hL : (late ops L i && none_of l L && L.contains k && !Nat.beq k i) = true := by kernel_rfl) (hg : oi.guard = some (j, t) := by rfl) (hdj : (ops[j]?).bind (·.dst) = some dj := by rfl) (hsj : S.get dj = some (.bool u) := by rfl) (hu : u = t := by first | rfl | exact dec) (hT2 : Sub T2 H := by exact subBy) (hT : Sub T H := by exact subBy) (hQ : ∀ ch a w (d : Nat) v, Q (.panic ch) (a.put (some d) v) w → Q (.panic ch) a w := by exact fun _ _ _ _ _ h => h) (hd : oi.dst = some d := by rfl) (hn : Nat.blt d c.n = true := by rfl) (hv : Gives P c.n oi v ((dj, .bool t) :: S) T := by exact Gives.byA) :
    J c (AP P ops Q T2.flatten T.flatten k (m + 1) l) S H := J.slot dj (.bool t) hsj (congrArg Value.bool hu) (J.takePW i L (nth_eq hi) hs hL hQ hg hdj (by rw [Slots.get_cons, if_pos rfl]) hT2 hT (J.giveT hv hd hn h))
theorem J.tkPEO {T2 T : Hs} {k : Nat} (i : Nat) {oi : Oper} {m : Nat} {l : Array Bool} (L : List Nat) {j dj : Nat} {t u : Bool} (h : J c (OT P T.flatten oi (AP P ops Q T2.flatten T.flatten k m (l.setIfInBounds i true))) ((dj, .bool t) :: S) H) (hi : nth ops.toList i = some oi := by rfl) (hs : canTake ops l i = true := by kernel_rfl) (hL : (late ops L i && none_of l L && L.contains k && !Nat.beq k i) = true := by kernel_rfl) (hg : oi.guard = some (j, t) := by rfl) (hdj : (ops[j]?).bind (·.dst) = some dj := by rfl) (hsj : S.get dj = some (.bool u) := by rfl) (hu : u = t := by first | rfl | exact dec) (hT2 : Sub T2 H := by exact subBy) (hT : Sub T H := by exact subBy) (hQ : ∀ ch a w (d : Nat) v, Q (.panic ch) (a.put (some d) v) w → Q (.panic ch) a w := by exact fun _ _ _ _ _ h => h) :
    J c (AP P ops Q T2.flatten T.flatten k (m + 1) l) S H := J.slot dj (.bool t) hsj (congrArg Value.bool hu) (J.takePW i L (nth_eq hi) hs hL hQ hg hdj (by rw [Slots.get_cons, if_pos rfl]) hT2 hT h)
theorem J.tkL {T2 T : Hs} {k : Nat} (i : Nat) {oi : Oper} {m : Nat} {l : Array Bool} {d : Nat} {v : Value} (h : J c (AP P ops Q T2.flatten T.flatten k m (l.setIfInBounds i true)) ((d, v) :: S) H) (hi : nth ops.toList i = some oi := by rfl) (hs : canTake ops l i = true := by kernel_rfl) (hL : (none_of l [i] && !Nat.beq k i) = true := by kernel_rfl) (hg : oi.guard = none := by rfl) (hT : CurP T2 T H k l := by first | (refine CurP.sub ?_ ?_; (all_goals (repeat (first | exact Sub.nil | refine Sub.cons 0 rfl ?_ | refine Sub.cons 1 rfl ?_ | refine Sub.cons 2 rfl ?_ | refine Sub.cons 3 rfl ?_ | refine Sub.cons 4 rfl ?_ | refine Sub.cons 5 rfl ?_ | refine Sub.cons 6 rfl ?_ | refine Sub.cons 7 rfl ?_ | refine Sub.cons 8 rfl ?_ | refine Sub.cons 9 rfl ?_ | refine Sub.cons 10 rfl ?_ | refine Sub.cons 11 rfl ?_ | refine Sub.cons 12 rfl ?_ | refine Sub.cons 13 rfl ?_ | refine Sub.cons 14 rfl ?_ | refine Sub.cons 15 rfl ?_ | refine Sub.cons 16 rfl ?_ | refine Sub.cons 17 rfl ?_ | refine Sub.cons 18 rfl ?_ | refine Sub.cons 19 rfl ?_ | refine Sub.cons 20 rfl ?_ | refine Sub.cons 21 rfl ?_ | refine Sub.cons 22 rfl ?_ | refine Sub.cons 23 rfl ?_))); done) | (refine CurP.past ?_ (by kernel_rfl); (repeat (first | exact Sub.nil | refine Sub.cons 0 rfl ?_ | refine Sub.cons 1 rfl ?_ | refine Sub.cons 2 rfl ?_ | refine Sub.cons 3 rfl ?_ | refine Sub.cons 4 rfl ?_ | refine Sub.cons 5 rfl ?_ | refine Sub.cons 6 rfl ?_ | refine Sub.cons 7 rfl ?_ | refine Sub.cons 8 rfl ?_ | refine Sub.cons 9 rfl ?_ | refine Sub.cons 10 rfl ?_ | refine Sub.cons 11 rfl ?_ | refine Sub.cons 12 rfl ?_ | refine Sub.cons 13 rfl ?_ | refine Sub.cons 14 rfl ?_ | refine Sub.cons 15 rfl ?_ | refine Sub.cons 16 rfl ?_ | refine Sub.cons 17 rfl ?_ | refine Sub.cons 18 rfl ?_ | refine Sub.cons 19 rfl ?_ | refine Sub.cons 20 rfl ?_ | refine Sub.cons 21 rfl ?_ | refine Sub.cons 22 rfl ?_ | refine Sub.cons 23 rfl ?_)); done)) (hQ : ∀ ch a w (d : Nat) v, Q (.panic ch) (a.put (some d) v) w → Q (.panic ch) a w := by exact fun _ _ _ _ _ h => h) (hd : oi.dst = some d := by rfl) (hn : Nat.blt d c.n = true := by rfl) (hv : Gives P c.n oi v S T2 := by exact Gives.byA) :
    J c (AP P ops Q T2.flatten T.flatten k (m + 1) l) S H := J.takeL i (nth_eq hi) hs hL hQ hg hT (J.giveT hv hd hn h)
theorem J.tkLO {T2 T : Hs} {k : Nat} (i : Nat) {oi : Oper} {m : Nat} {l : Array Bool} (h : J c (OT P T2.flatten oi (AP P ops Q T2.flatten T.flatten k m (l.setIfInBounds i true))) S H) (hi : nth ops.toList i = some oi := by rfl) (hs : canTake ops l i = true := by kernel_rfl) (hL : (none_of l [i] && !Nat.beq k i) = true := by kernel_rfl) (hg : oi.guard = none := by rfl) (hT : CurP T2 T H k l := by first | (refine CurP.sub ?_ ?_; (all_goals (repeat (first | exact Sub.nil | refine Sub.cons 0 rfl ?_ | refine Sub.cons 1 rfl ?_ | refine Sub.cons 2 rfl ?_ | refine Sub.cons 3 rfl ?_ | refine Sub.cons 4 rfl ?_ | refine Sub.cons 5 rfl ?_ | refine Sub.cons 6 rfl ?_ | refine Sub.cons 7 rfl ?_ | refine Sub.cons 8 rfl ?_ | refine Sub.cons 9 rfl ?_ | refine Sub.cons 10 rfl ?_ | refine Sub.cons 11 rfl ?_ | refine Sub.cons 12 rfl ?_ | refine Sub.cons 13 rfl ?_ | refine Sub.cons 14 rfl ?_ | refine Sub.cons 15 rfl ?_ | refine Sub.cons 16 rfl ?_ | refine Sub.cons 17 rfl ?_ | refine Sub.cons 18 rfl ?_ | refine Sub.cons 19 rfl ?_ | refine Sub.cons 20 rfl ?_ | refine Sub.cons 21 rfl ?_ | refine Sub.cons 22 rfl ?_ | refine Sub.cons 23 rfl ?_))); done) | (refine CurP.past ?_ (by kernel_rfl); (repeat (first | exact Sub.nil | refine Sub.cons 0 rfl ?_ | refine Sub.cons 1 rfl ?_ | refine Sub.cons 2 rfl ?_ | refine Sub.cons 3 rfl ?_ | refine Sub.cons 4 rfl ?_ | refine Sub.cons 5 rfl ?_ | refine Sub.cons 6 rfl ?_ | refine Sub.cons 7 rfl ?_ | refine Sub.cons 8 rfl ?_ | refine Sub.cons 9 rfl ?_ | refine Sub.cons 10 rfl ?_ | refine Sub.cons 11 rfl ?_ | refine Sub.cons 12 rfl ?_ | refine Sub.cons 13 rfl ?_ | refine Sub.cons 14 rfl ?_ | refine Sub.cons 15 rfl ?_ | refine Sub.cons 16 rfl ?_ | refine Sub.cons 17 rfl ?_ | refine Sub.cons 18 rfl ?_ | refine Sub.cons 19 rfl ?_ | refine Sub.cons 20 rfl ?_ | refine Sub.cons 21 rfl ?_ | refine Sub.cons 22 rfl ?_ | refine Sub.cons 23 rfl ?_)); done)) (hQ : ∀ ch a w (d : Nat) v, Q (.panic ch) (a.put (some d) v) w → Q (.panic ch) a w := by exact fun _ _ _ _ _ h => h) :
    J c (AP P ops Q T2.flatten T.flatten k (m + 1) l) S H := J.takeL i (nth_eq hi) hs hL hQ hg hT h
theorem J.tkLE {T2 T : Hs} {k : Nat} (i : Nat) {oi : Oper} {m : Nat} {l : Array Bool} {j dj : Nat} {t u : Bool} {d : Nat} {v : Value} (h : J c (AP P ops Q T2.flatten T.flatten k m (l.setIfInBounds i true)) ((d, v) :: (dj, .bool t) :: S) H) (hi : nth ops.toList i = some oi := by rfl) (hs : canTake ops l i = true := by kernel_rfl) (hL : (none_of l [i] && !Nat.beq k i) = true := by kernel_rfl) (hg : oi.guard = some (j, t) := by rfl) (hdj : (ops[j]?).bind (·.dst) = some dj := by rfl) (hsj : S.get dj = some (.bool u) := by rfl) (hu : u = t := by first | rfl | exact dec) (hT : CurP T2 T H k l := by first | (refine CurP.sub ?_ ?_; (all_goals (repeat (first | exact Sub.nil | refine Sub.cons 0 rfl ?_ | refine Sub.cons 1 rfl ?_ | refine Sub.cons 2 rfl ?_ | refine Sub.cons 3 rfl ?_ | refine Sub.cons 4 rfl ?_ | refine Sub.cons 5 rfl ?_ | refine Sub.cons 6 rfl ?_ | refine Sub.cons 7 rfl ?_ | refine Sub.cons 8 rfl ?_ | refine Sub.cons 9 rfl ?_ | refine Sub.cons 10 rfl ?_ | refine Sub.cons 11 rfl ?_ | refine Sub.cons 12 rfl ?_ | refine Sub.cons 13 rfl ?_ | refine Sub.cons 14 rfl ?_ | refine Sub.cons 15 rfl ?_ | refine Sub.cons 16 rfl ?_ | refine Sub.cons 17 rfl ?_ | refine Sub.cons 18 rfl ?_ | refine Sub.cons 19 rfl ?_ | refine Sub.cons 20 rfl ?_ | refine Sub.cons 21 rfl ?_ | refine Sub.cons 22 rfl ?_ | refine Sub.cons 23 rfl ?_))); done) | (refine CurP.past ?_ (by kernel_rfl); (repeat (first | exact Sub.nil | refine Sub.cons 0 rfl ?_ | refine Sub.cons 1 rfl ?_ | refine Sub.cons 2 rfl ?_ | refine Sub.cons 3 rfl ?_ | refine Sub.cons 4 rfl ?_ | refine Sub.cons 5 rfl ?_ | refine Sub.cons 6 rfl ?_ | refine Sub.cons 7 rfl ?_ | refine Sub.cons 8 rfl ?_ | refine Sub.cons 9 rfl ?_ | refine Sub.cons 10 rfl ?_ | refine Sub.cons 11 rfl ?_ | refine Sub.cons 12 rfl ?_ | refine Sub.cons 13 rfl ?_ | refine Sub.cons 14 rfl ?_ | refine Sub.cons 15 rfl ?_ | refine Sub.cons 16 rfl ?_ | refine Sub.cons 17 rfl ?_ | refine Sub.cons 18 rfl ?_ | refine Sub.cons 19 rfl ?_ | refine Sub.cons 20 rfl ?_ | refine Sub.cons 21 rfl ?_ | refine Sub.cons 22 rfl ?_ | refine Sub.cons 23 rfl ?_)); done)) (hQ : ∀ ch a w (d : Nat) v, Q (.panic ch) (a.put (some d) v) w → Q (.panic ch) a w := by exact fun _ _ _ _ _ h => h) (hd : oi.dst = some d := by rfl) (hn : Nat.blt d c.n = true := by rfl) (hv : Gives P c.n oi v ((dj, .bool t) :: S) T2 := by exact Gives.byA) :
    J c (AP P ops Q T2.flatten T.flatten k (m + 1) l) S H := J.slot dj (.bool t) hsj (congrArg Value.bool hu) (J.takeLW i (nth_eq hi) hs hL hQ hg hdj (by rw [Slots.get_cons, if_pos rfl]) hT (J.giveT hv hd hn h))
theorem J.tkLEO {T2 T : Hs} {k : Nat} (i : Nat) {oi : Oper} {m : Nat} {l : Array Bool} {j dj : Nat} {t u : Bool} (h : J c (OT P T2.flatten oi (AP P ops Q T2.flatten T.flatten k m (l.setIfInBounds i true))) ((dj, .bool t) :: S) H) (hi : nth ops.toList i = some oi := by rfl) (hs : canTake ops l i = true := by kernel_rfl) (hL : (none_of l [i] && !Nat.beq k i) = true := by kernel_rfl) (hg : oi.guard = some (j, t) := by rfl) (hdj : (ops[j]?).bind (·.dst) = some dj := by rfl) (hsj : S.get dj = some (.bool u) := by rfl) (hu : u = t := by first | rfl | exact dec) (hT : CurP T2 T H k l := by first | (refine CurP.sub ?_ ?_; (all_goals (repeat (first | exact Sub.nil | refine Sub.cons 0 rfl ?_ | refine Sub.cons 1 rfl ?_ | refine Sub.cons 2 rfl ?_ | refine Sub.cons 3 rfl ?_ | refine Sub.cons 4 rfl ?_ | refine Sub.cons 5 rfl ?_ | refine Sub.cons 6 rfl ?_ | refine Sub.cons 7 rfl ?_ | refine Sub.cons 8 rfl ?_ | refine Sub.cons 9 rfl ?_ | refine Sub.cons 10 rfl ?_ | refine Sub.cons 11 rfl ?_ | refine Sub.cons 12 rfl ?_ | refine Sub.cons 13 rfl ?_ | refine Sub.cons 14 rfl ?_ | refine Sub.cons 15 rfl ?_ | refine Sub.cons 16 rfl ?_ | refine Sub.cons 17 rfl ?_ | refine Sub.cons 18 rfl ?_ | refine Sub.cons 19 rfl ?_ | refine Sub.cons 20 rfl ?_ | refine Sub.cons 21 rfl ?_ | refine Sub.cons 22 rfl ?_ | refine Sub.cons 23 rfl ?_))); done) | (refine CurP.past ?_ (by kernel_rfl); (repeat (first | exact Sub.nil | refine Sub.cons 0 rfl ?_ | refine Sub.cons 1 rfl ?_ | refine Sub.cons 2 rfl ?_ | refine Sub.cons 3 rfl ?_ | refine Sub.cons 4 rfl ?_ | refine Sub.cons 5 rfl ?_ | refine Sub.cons 6 rfl ?_ | refine Sub.cons 7 rfl ?_ | refine Sub.cons 8 rfl ?_ | refine Sub.cons 9 rfl ?_ | refine Sub.cons 10 rfl ?_ | refine Sub.cons 11 rfl ?_ | refine Sub.cons 12 rfl ?_ | refine Sub.cons 13 rfl ?_ | refine Sub.cons 14 rfl ?_ | refine Sub.cons 15 rfl ?_ | refine Sub.cons 16 rfl ?_ | refine Sub.cons 17 rfl ?_ | refine Sub.cons 18 rfl ?_ | refine Sub.cons 19 rfl ?_ | refine Sub.cons 20 rfl ?_ | refine Sub.cons 21 rfl ?_ | refine Sub.cons 22 rfl ?_ | refine Sub.cons 23 rfl ?_)); done)) (hQ : ∀ ch a w (d : Nat) v, Q (.panic ch) (a.put (some d) v) w → Q (.panic ch) a w := by exact fun _ _ _ _ _ h => h) :
    J c (AP P ops Q T2.flatten T.flatten k (m + 1) l) S H := J.slot dj (.bool t) hsj (congrArg Value.bool hu) (J.takeLW i (nth_eq hi) hs hL hQ hg hdj (by rw [Slots.get_cons, if_pos rfl]) hT h)
theorem J.tkG {T2 T : Hs} {k : Nat} (i : Nat) {oi : Oper} {m : Nat} {l : Array Bool} {d : Nat} {v : Value} (h : J c (AP P ops Q T2.flatten T.flatten k m (l.setIfInBounds i true)) ((d, v) :: S) H) (hi : nth ops.toList i = some oi := by rfl) (hs : canTake ops l i = true := by kernel_rfl) (hL : (none_of l [i] && !Nat.beq k i) = true := by kernel_rfl) (hg : oi.guard = none := by rfl) (hT : CurP T2 T H k l := by first | (refine CurP.sub ?_ ?_; (all_goals (repeat (first | exact Sub.nil | refine Sub.cons 0 rfl ?_ | refine Sub.cons 1 rfl ?_ | refine Sub.cons 2 rfl ?_ | refine Sub.cons 3 rfl ?_ | refine Sub.cons 4 rfl ?_ | refine Sub.cons 5 rfl ?_ | refine Sub.cons 6 rfl ?_ | refine Sub.cons 7 rfl ?_ | refine Sub.cons 8 rfl ?_ | refine Sub.cons 9 rfl ?_ | refine Sub.cons 10 rfl ?_ | refine Sub.cons 11 rfl ?_ | refine Sub.cons 12 rfl ?_ | refine Sub.cons 13 rfl ?_ | refine Sub.cons 14 rfl ?_ | refine Sub.cons 15 rfl ?_ | refine Sub.cons 16 rfl ?_ | refine Sub.cons 17 rfl ?_ | refine Sub.cons 18 rfl ?_ | refine Sub.cons 19 rfl ?_ | refine Sub.cons 20 rfl ?_ | refine Sub.cons 21 rfl ?_ | refine Sub.cons 22 rfl ?_ | refine Sub.cons 23 rfl ?_))); done) | (refine CurP.past ?_ (by kernel_rfl); (repeat (first | exact Sub.nil | refine Sub.cons 0 rfl ?_ | refine Sub.cons 1 rfl ?_ | refine Sub.cons 2 rfl ?_ | refine Sub.cons 3 rfl ?_ | refine Sub.cons 4 rfl ?_ | refine Sub.cons 5 rfl ?_ | refine Sub.cons 6 rfl ?_ | refine Sub.cons 7 rfl ?_ | refine Sub.cons 8 rfl ?_ | refine Sub.cons 9 rfl ?_ | refine Sub.cons 10 rfl ?_ | refine Sub.cons 11 rfl ?_ | refine Sub.cons 12 rfl ?_ | refine Sub.cons 13 rfl ?_ | refine Sub.cons 14 rfl ?_ | refine Sub.cons 15 rfl ?_ | refine Sub.cons 16 rfl ?_ | refine Sub.cons 17 rfl ?_ | refine Sub.cons 18 rfl ?_ | refine Sub.cons 19 rfl ?_ | refine Sub.cons 20 rfl ?_ | refine Sub.cons 21 rfl ?_ | refine Sub.cons 22 rfl ?_ | refine Sub.cons 23 rfl ?_)); done)) (hQ : ∀ ch a w (d : Nat) v, Q (.panic ch) (a.put (some d) v) w → Q (.panic ch) a w := by exact fun _ _ _ _ _ h => h) (hd : oi.dst = some d := by rfl) (hn : Nat.blt d c.n = true := by rfl) (hv : Gives P c.n oi v S [] := by exact Gives.byA) :
    J c (AP P ops Q T2.flatten T.flatten k (m + 1) l) S H := J.takeG i (nth_eq hi) hs hL hQ hg hT (J.giveT hv hd hn h)
theorem J.tkGO {T2 T : Hs} {k : Nat} (i : Nat) {oi : Oper} {m : Nat} {l : Array Bool} (h : J c (OT P ([] : Hs).flatten oi (AP P ops Q T2.flatten T.flatten k m (l.setIfInBounds i true))) S H) (hi : nth ops.toList i = some oi := by rfl) (hs : canTake ops l i = true := by kernel_rfl) (hL : (none_of l [i] && !Nat.beq k i) = true := by kernel_rfl) (hg : oi.guard = none := by rfl) (hT : CurP T2 T H k l := by first | (refine CurP.sub ?_ ?_; (all_goals (repeat (first | exact Sub.nil | refine Sub.cons 0 rfl ?_ | refine Sub.cons 1 rfl ?_ | refine Sub.cons 2 rfl ?_ | refine Sub.cons 3 rfl ?_ | refine Sub.cons 4 rfl ?_ | refine Sub.cons 5 rfl ?_ | refine Sub.cons 6 rfl ?_ | refine Sub.cons 7 rfl ?_ | refine Sub.cons 8 rfl ?_ | refine Sub.cons 9 rfl ?_ | refine Sub.cons 10 rfl ?_ | refine Sub.cons 11 rfl ?_ | refine Sub.cons 12 rfl ?_ | refine Sub.cons 13 rfl ?_ | refine Sub.cons 14 rfl ?_ | refine Sub.cons 15 rfl ?_ | refine Sub.cons 16 rfl ?_ | refine Sub.cons 17 rfl ?_ | refine Sub.cons 18 rfl ?_ | refine Sub.cons 19 rfl ?_ | refine Sub.cons 20 rfl ?_ | refine Sub.cons 21 rfl ?_ | refine Sub.cons 22 rfl ?_ | refine Sub.cons 23 rfl ?_))); done) | (refine CurP.past ?_ (by kernel_rfl); (repeat (first | exact Sub.nil | refine Sub.cons 0 rfl ?_ | refine Sub.cons 1 rfl ?_ | refine Sub.cons 2 rfl ?_ | refine Sub.cons 3 rfl ?_ | refine Sub.cons 4 rfl ?_ | refine Sub.cons 5 rfl ?_ | refine Sub.cons 6 rfl ?_ | refine Sub.cons 7 rfl ?_ | refine Sub.cons 8 rfl ?_ | refine Sub.cons 9 rfl ?_ | refine Sub.cons 10 rfl ?_ | refine Sub.cons 11 rfl ?_ | refine Sub.cons 12 rfl ?_ | refine Sub.cons 13 rfl ?_ | refine Sub.cons 14 rfl ?_ | refine Sub.cons 15 rfl ?_ | refine Sub.cons 16 rfl ?_ | refine Sub.cons 17 rfl ?_ | refine Sub.cons 18 rfl ?_ | refine Sub.cons 19 rfl ?_ | refine Sub.cons 20 rfl ?_ | refine Sub.cons 21 rfl ?_ | refine Sub.cons 22 rfl ?_ | refine Sub.cons 23 rfl ?_)); done)) (hQ : ∀ ch a w (d : Nat) v, Q (.panic ch) (a.put (some d) v) w → Q (.panic ch) a w := by exact fun _ _ _ _ _ h => h) :
    J c (AP P ops Q T2.flatten T.flatten k (m + 1) l) S H := J.takeG i (nth_eq hi) hs hL hQ hg hT h
theorem J.tkGE {T2 T : Hs} {k : Nat} (i : Nat) {oi : Oper} {m : Nat} {l : Array Bool} {j dj : Nat} {t u : Bool} {d : Nat} {v : Value} (h : J c (AP P ops Q T2.flatten T.flatten k m (l.setIfInBounds i true)) ((d, v) :: (dj, .bool t) :: S) H) (hi : nth ops.toList i = some oi := by rfl) (hs : canTake ops l i = true := by kernel_rfl) (hL : (none_of l [i] && !Nat.beq k i) = true := by kernel_rfl) (hg : oi.guard = some (j, t) := by rfl) (hdj : (ops[j]?).bind (·.dst) = some dj := by rfl) (hsj : S.get dj = some (.bool u) := by rfl) (hu : u = t := by first | rfl | exact dec) (hT : CurP T2 T H k l := by first | (refine CurP.sub ?_ ?_; (all_goals (repeat (first | exact Sub.nil | refine Sub.cons 0 rfl ?_ | refine Sub.cons 1 rfl ?_ | refine Sub.cons 2 rfl ?_ | refine Sub.cons 3 rfl ?_ | refine Sub.cons 4 rfl ?_ | refine Sub.cons 5 rfl ?_ | refine Sub.cons 6 rfl ?_ | refine Sub.cons 7 rfl ?_ | refine Sub.cons 8 rfl ?_ | refine Sub.cons 9 rfl ?_ | refine Sub.cons 10 rfl ?_ | refine Sub.cons 11 rfl ?_ | refine Sub.cons 12 rfl ?_ | refine Sub.cons 13 rfl ?_ | refine Sub.cons 14 rfl ?_ | refine Sub.cons 15 rfl ?_ | refine Sub.cons 16 rfl ?_ | refine Sub.cons 17 rfl ?_ | refine Sub.cons 18 rfl ?_ | refine Sub.cons 19 rfl ?_ | refine Sub.cons 20 rfl ?_ | refine Sub.cons 21 rfl ?_ | refine Sub.cons 22 rfl ?_ | refine Sub.cons 23 rfl ?_))); done) | (refine CurP.past ?_ (by kernel_rfl); (repeat (first | exact Sub.nil | refine Sub.cons 0 rfl ?_ | refine Sub.cons 1 rfl ?_ | refine Sub.cons 2 rfl ?_ | refine Sub.cons 3 rfl ?_ | refine Sub.cons 4 rfl ?_ | refine Sub.cons 5 rfl ?_ | refine Sub.cons 6 rfl ?_ | refine Sub.cons 7 rfl ?_ | refine Sub.cons 8 rfl ?_ | refine Sub.cons 9 rfl ?_ | refine Sub.cons 10 rfl ?_ | refine Sub.cons 11 rfl ?_ | refine Sub.cons 12 rfl ?_ | refine Sub.cons 13 rfl ?_ | refine Sub.cons 14 rfl ?_ | refine Sub.cons 15 rfl ?_ | refine Sub.cons 16 rfl ?_ | refine Sub.cons 17 rfl ?_ | refine Sub.cons 18 rfl ?_ | refine Sub.cons 19 rfl ?_ | refine Sub.cons 20 rfl ?_ | refine Sub.cons 21 rfl ?_ | refine Sub.cons 22 rfl ?_ | refine Sub.cons 23 rfl ?_)); done)) (hQ : ∀ ch a w (d : Nat) v, Q (.panic ch) (a.put (some d) v) w → Q (.panic ch) a w := by exact fun _ _ _ _ _ h => h) (hd : oi.dst = some d := by rfl) (hn : Nat.blt d c.n = true := by rfl) (hv : Gives P c.n oi v ((dj, .bool t) :: S) [] := by exact Gives.byA) :
    J c (AP P ops Q T2.flatten T.flatten k (m + 1) l) S H := J.slot dj (.bool t) hsj (congrArg Value.bool hu) (J.takeGW i (nth_eq hi) hs hL hQ hg hdj (by rw [Slots.get_cons, if_pos rfl]) hT (J.giveT hv hd hn h))
theorem J.tkGEO {T2 T : Hs} {k : Nat} (i : Nat) {oi : Oper} {m : Nat} {l : Array Bool} {j dj : Nat} {t u : Bool} (h : J c (OT P ([] : Hs).flatten oi (AP P ops Q T2.flatten T.flatten k m (l.setIfInBounds i true))) ((dj, .bool t) :: S) H) (hi : nth ops.toList i = some oi := by rfl) (hs : canTake ops l i = true := by kernel_rfl) (hL : (none_of l [i] && !Nat.beq k i) = true := by kernel_rfl) (hg : oi.guard = some (j, t) := by rfl) (hdj : (ops[j]?).bind (·.dst) = some dj := by rfl) (hsj : S.get dj = some (.bool u) := by rfl) (hu : u = t := by first | rfl | exact dec) (hT : CurP T2 T H k l := by first | (refine CurP.sub ?_ ?_; (all_goals (repeat (first | exact Sub.nil | refine Sub.cons 0 rfl ?_ | refine Sub.cons 1 rfl ?_ | refine Sub.cons 2 rfl ?_ | refine Sub.cons 3 rfl ?_ | refine Sub.cons 4 rfl ?_ | refine Sub.cons 5 rfl ?_ | refine Sub.cons 6 rfl ?_ | refine Sub.cons 7 rfl ?_ | refine Sub.cons 8 rfl ?_ | refine Sub.cons 9 rfl ?_ | refine Sub.cons 10 rfl ?_ | refine Sub.cons 11 rfl ?_ | refine Sub.cons 12 rfl ?_ | refine Sub.cons 13 rfl ?_ | refine Sub.cons 14 rfl ?_ | refine Sub.cons 15 rfl ?_ | refine Sub.cons 16 rfl ?_ | refine Sub.cons 17 rfl ?_ | refine Sub.cons 18 rfl ?_ | refine Sub.cons 19 rfl ?_ | refine Sub.cons 20 rfl ?_ | refine Sub.cons 21 rfl ?_ | refine Sub.cons 22 rfl ?_ | refine Sub.cons 23 rfl ?_))); done) | (refine CurP.past ?_ (by kernel_rfl); (repeat (first | exact Sub.nil | refine Sub.cons 0 rfl ?_ | refine Sub.cons 1 rfl ?_ | refine Sub.cons 2 rfl ?_ | refine Sub.cons 3 rfl ?_ | refine Sub.cons 4 rfl ?_ | refine Sub.cons 5 rfl ?_ | refine Sub.cons 6 rfl ?_ | refine Sub.cons 7 rfl ?_ | refine Sub.cons 8 rfl ?_ | refine Sub.cons 9 rfl ?_ | refine Sub.cons 10 rfl ?_ | refine Sub.cons 11 rfl ?_ | refine Sub.cons 12 rfl ?_ | refine Sub.cons 13 rfl ?_ | refine Sub.cons 14 rfl ?_ | refine Sub.cons 15 rfl ?_ | refine Sub.cons 16 rfl ?_ | refine Sub.cons 17 rfl ?_ | refine Sub.cons 18 rfl ?_ | refine Sub.cons 19 rfl ?_ | refine Sub.cons 20 rfl ?_ | refine Sub.cons 21 rfl ?_ | refine Sub.cons 22 rfl ?_ | refine Sub.cons 23 rfl ?_)); done)) (hQ : ∀ ch a w (d : Nat) v, Q (.panic ch) (a.put (some d) v) w → Q (.panic ch) a w := by exact fun _ _ _ _ _ h => h) :
    J c (AP P ops Q T2.flatten T.flatten k (m + 1) l) S H := J.slot dj (.bool t) hsj (congrArg Value.bool hu) (J.takeGW i (nth_eq hi) hs hL hQ hg hdj (by rw [Slots.get_cons, if_pos rfl]) hT h)
theorem J.tkGN {T2 T : Hs} {k : Nat} (i : Nat) {oi : Oper} {m : Nat} {l : Array Bool} {j dj : Nat} {t u t' : Bool} {d : Nat} (h : J c (AP P ops Q T2.flatten T.flatten k m (l.setIfInBounds i true)) ((d, undef) :: (dj, .bool t') :: S) H) (hi : nth ops.toList i = some oi := by rfl) (hs : canTake ops l i = true := by kernel_rfl) (hL : (none_of l [i] && !Nat.beq k i) = true := by kernel_rfl) (hg : oi.guard = some (j, t) := by rfl) (hdj : (ops[j]?).bind (·.dst) = some dj := by rfl) (hsj : S.get dj = some (.bool u) := by rfl) (ht : (!t) = t' := by rfl) (hu : u = t' := by first | rfl | exact dec) (hT : CurP T2 T H k l := by first | (refine CurP.sub ?_ ?_; (all_goals (repeat (first | exact Sub.nil | refine Sub.cons 0 rfl ?_ | refine Sub.cons 1 rfl ?_ | refine Sub.cons 2 rfl ?_ | refine Sub.cons 3 rfl ?_ | refine Sub.cons 4 rfl ?_ | refine Sub.cons 5 rfl ?_ | refine Sub.cons 6 rfl ?_ | refine Sub.cons 7 rfl ?_ | refine Sub.cons 8 rfl ?_ | refine Sub.cons 9 rfl ?_ | refine Sub.cons 10 rfl ?_ | refine Sub.cons 11 rfl ?_ | refine Sub.cons 12 rfl ?_ | refine Sub.cons 13 rfl ?_ | refine Sub.cons 14 rfl ?_ | refine Sub.cons 15 rfl ?_ | refine Sub.cons 16 rfl ?_ | refine Sub.cons 17 rfl ?_ | refine Sub.cons 18 rfl ?_ | refine Sub.cons 19 rfl ?_ | refine Sub.cons 20 rfl ?_ | refine Sub.cons 21 rfl ?_ | refine Sub.cons 22 rfl ?_ | refine Sub.cons 23 rfl ?_))); done) | (refine CurP.past ?_ (by kernel_rfl); (repeat (first | exact Sub.nil | refine Sub.cons 0 rfl ?_ | refine Sub.cons 1 rfl ?_ | refine Sub.cons 2 rfl ?_ | refine Sub.cons 3 rfl ?_ | refine Sub.cons 4 rfl ?_ | refine Sub.cons 5 rfl ?_ | refine Sub.cons 6 rfl ?_ | refine Sub.cons 7 rfl ?_ | refine Sub.cons 8 rfl ?_ | refine Sub.cons 9 rfl ?_ | refine Sub.cons 10 rfl ?_ | refine Sub.cons 11 rfl ?_ | refine Sub.cons 12 rfl ?_ | refine Sub.cons 13 rfl ?_ | refine Sub.cons 14 rfl ?_ | refine Sub.cons 15 rfl ?_ | refine Sub.cons 16 rfl ?_ | refine Sub.cons 17 rfl ?_ | refine Sub.cons 18 rfl ?_ | refine Sub.cons 19 rfl ?_ | refine Sub.cons 20 rfl ?_ | refine Sub.cons 21 rfl ?_ | refine Sub.cons 22 rfl ?_ | refine Sub.cons 23 rfl ?_)); done)) (hQ : ∀ ch a w (d : Nat) v, Q (.panic ch) (a.put (some d) v) w → Q (.panic ch) a w := by exact fun _ _ _ _ _ h => h) (hd : oi.dst = some d := by rfl) (hn : Nat.blt d c.n = true := by rfl) :
    J c (AP P ops Q T2.flatten T.flatten k (m + 1) l) S H := J.slot dj (.bool t') hsj (congrArg Value.bool hu) (J.takeGN i (nth_eq hi) hd hn hs hL hQ hg hdj (by rw [Slots.get_cons, if_pos rfl]) (by rw [← ht]; cases t <;> rfl) hT h)
theorem J.tkGU {T2 T : Hs} {k : Nat} (i : Nat) {oi : Oper} {m : Nat} {l : Array Bool} {j dj : Nat} {t : Bool} {d : Nat} (h : J c (AP P ops Q T2.flatten T.flatten k m (l.setIfInBounds i true)) ((d, undef) :: S) H) (hi : nth ops.toList i = some oi := by rfl) (hs : canTake ops l i = true := by kernel_rfl) (hL : (none_of l [i] && !Nat.beq k i) = true := by kernel_rfl) (hg : oi.guard = some (j, t) := by rfl) (hdj : (ops[j]?).bind (·.dst) = some dj := by rfl) (hsj : S.get dj = some undef := by rfl) (hT : CurP T2 T H k l := by first | (refine CurP.sub ?_ ?_; (all_goals (repeat (first | exact Sub.nil | refine Sub.cons 0 rfl ?_ | refine Sub.cons 1 rfl ?_ | refine Sub.cons 2 rfl ?_ | refine Sub.cons 3 rfl ?_ | refine Sub.cons 4 rfl ?_ | refine Sub.cons 5 rfl ?_ | refine Sub.cons 6 rfl ?_ | refine Sub.cons 7 rfl ?_ | refine Sub.cons 8 rfl ?_ | refine Sub.cons 9 rfl ?_ | refine Sub.cons 10 rfl ?_ | refine Sub.cons 11 rfl ?_ | refine Sub.cons 12 rfl ?_ | refine Sub.cons 13 rfl ?_ | refine Sub.cons 14 rfl ?_ | refine Sub.cons 15 rfl ?_ | refine Sub.cons 16 rfl ?_ | refine Sub.cons 17 rfl ?_ | refine Sub.cons 18 rfl ?_ | refine Sub.cons 19 rfl ?_ | refine Sub.cons 20 rfl ?_ | refine Sub.cons 21 rfl ?_ | refine Sub.cons 22 rfl ?_ | refine Sub.cons 23 rfl ?_))); done) | (refine CurP.past ?_ (by kernel_rfl); (repeat (first | exact Sub.nil | refine Sub.cons 0 rfl ?_ | refine Sub.cons 1 rfl ?_ | refine Sub.cons 2 rfl ?_ | refine Sub.cons 3 rfl ?_ | refine Sub.cons 4 rfl ?_ | refine Sub.cons 5 rfl ?_ | refine Sub.cons 6 rfl ?_ | refine Sub.cons 7 rfl ?_ | refine Sub.cons 8 rfl ?_ | refine Sub.cons 9 rfl ?_ | refine Sub.cons 10 rfl ?_ | refine Sub.cons 11 rfl ?_ | refine Sub.cons 12 rfl ?_ | refine Sub.cons 13 rfl ?_ | refine Sub.cons 14 rfl ?_ | refine Sub.cons 15 rfl ?_ | refine Sub.cons 16 rfl ?_ | refine Sub.cons 17 rfl ?_ | refine Sub.cons 18 rfl ?_ | refine Sub.cons 19 rfl ?_ | refine Sub.cons 20 rfl ?_ | refine Sub.cons 21 rfl ?_ | refine Sub.cons 22 rfl ?_ | refine Sub.cons 23 rfl ?_)); done)) (hQ : ∀ ch a w (d : Nat) v, Q (.panic ch) (a.put (some d) v) w → Q (.panic ch) a w := by exact fun _ _ _ _ _ h => h) (hd : oi.dst = some d := by rfl) (hn : Nat.blt d c.n = true := by rfl) :
    J c (AP P ops Q T2.flatten T.flatten k (m + 1) l) S H := J.takeGU i (nth_eq hi) hd hn hs hL hQ hg hdj hsj hT h
theorem J.onP {T2 T : Hs} {k : Nat} (i : Nat) {oi : Oper} {m : Nat} {l : Array Bool} (h : J c (OW P oi (HP T2.flatten T.flatten k (l.setIfInBounds i true) (AP P ops Q T2.flatten T.flatten k m (l.setIfInBounds i true))) Q) S H) (hr : Region.ready .any ops l = [i] := by kernel_rfl) (hi : nth ops.toList i = some oi := by rfl) (hg : oi.guard = none := by rfl) :
    J c (AP P ops Q T2.flatten T.flatten k (m + 1) l) S H := J.oneP i hr (nth_eq hi) hg h
theorem J.onPE {T2 T : Hs} {k : Nat} (i : Nat) {oi : Oper} {m : Nat} {l : Array Bool} {j dj : Nat} {t u : Bool} (h : J c (OW P oi (HP T2.flatten T.flatten k (l.setIfInBounds i true) (AP P ops Q T2.flatten T.flatten k m (l.setIfInBounds i true))) Q) ((dj, .bool t) :: S) H) (hr : Region.ready .any ops l = [i] := by kernel_rfl) (hi : nth ops.toList i = some oi := by rfl) (hg : oi.guard = some (j, t) := by rfl) (hdj : (ops[j]?).bind (·.dst) = some dj := by rfl) (hsj : S.get dj = some (.bool u) := by rfl) (hu : u = t := by first | rfl | exact dec) :
    J c (AP P ops Q T2.flatten T.flatten k (m + 1) l) S H := J.slot dj (.bool t) hsj (congrArg Value.bool hu) (J.onePW i hr (nth_eq hi) hg hdj (by rw [Slots.get_cons, if_pos rfl]) h)
theorem J.alP {T2 T : Hs} {k m : Nat} {l : Array Bool} (h : J c (XW Q .normal) S H) (hr : Region.ready .any ops l = [] := by kernel_rfl) :
    J c (AP P ops Q T2.flatten T.flatten k m l) S H := J.allP hr h
end
end Go.Proofs.YE
namespace Go.Proofs.YE
open Go
section
variable {P : Program} {Q : Exit → Act → World → Prop} {c : Cx} {S : Slots} {H : Hs}
theorem J.loopT {α : Type} {x : Code} {F : Hs} (Sx : α → Slots) (Hx : α → Hs) (Px : α → Prop) (μ : α → Nat) (x0 : α) (h0 : Px x0)
    (body : ∀ y, Px y → J c (CW P x (Exit.then (RW c Sx Hx Px μ (μ y)) Q)) (Sx y) (Hx y)) (hS : ∀ t v, (Sx x0).get t = some v → S.get t = some v := by exact fun _ _ h => h) (hT : Took (Hx x0) H F := by exact tookBy) :
    J c (CW P (Code.loop x) Q) S H := J.to (Hx x0) (J.loop Sx Hx Px μ x0 h0 hS rfl body) hT
end
end Go.Proofs.YE
