/- Part MJ of the walks that a statement of this seat is proved by: laws of memory, then the functions one by one. -/
import Derived.Test.YtoflbjncpliplaaGreatMI
namespace Go.Proofs.YE
open Go
section
variable {P : Program} {Q : Exit → Act → World → Prop} {c : Cx} {S : Slots} {H : Hs} {K : Act → World → Prop} {n : Nat} {o : Oper} {ops : Array Oper} {rest : List Oper}
theorem Gives.mkIface {T : TypeId} {x : Operand} {v : Value} {d : TypeDesc} (hu : P.underlying T = some d) (hn : (match d with | .interface _ => false | _ => true) = true) (ho : o.op = .makeInterface T x) (hx : ev S x = some v) : Gives P n o (.iface T v) S H := fun a w hf _ => by
  unfold execOp; rw [ho]
  have h1 : (Instr.makeInterface T v).run P w = .ok (.iface T v) w := by
    unfold Instr.makeInterface
    simp only [Sem.run_bind, und_run hu, Result.andThen_ok]
    cases d <;> first | rfl | (cases hn)
  simp [hf.ev hx, h1]
theorem Gives.nilCheckI {x : Operand} {T : TypeId} {v : Value} (ho : o.op = .nilCheck x) (hx : ev S x = some (.iface T v)) : Gives P n o (.iface T v) S H := fun a w hf _ => by
  unfold execOp; rw [ho]; simp [hf.ev hx]
/-- A method of an interface's value: that of its own type. -/
theorem J.callI {T : TypeId} {x : Operand} {name : String} {rv v0 : Value} {f : FuncId} {fn : Func} {xs : Array Operand} {ats : Array TypeId} {ty : TypeId} {pos : String} {after : Array Edge} {g : Option (Nat × Bool)} {dst : Option Nat}
    {args : List Value} {all : Array Value} {H1 F : Hs} {Post : Value → Hs → Prop} (hm : ∀ w, (Go.method (P.types.size + Made.depth) T rv name).run P w = .ok (f, v0) w) (spec : Sp P f all H1 Post) (h : ∀ v H', Post v H' → J c (PW K dst v) S (H' ++ F)) (hx : ev S x = some (.iface T rv) := by rfl)
    (hargs : evs S xs.toList = some args := by rfl) (hall : all = (v0 :: args).toArray := by rfl) (hT : Took H1 H F := by exact tookBy)
    (hf : P.funcs[f]? = some fn := by rfl) (hb : fn.body.isNone = false := by rfl) (hn : (fn.name == "runtime.NumGoroutine") = false := by rfl) :
    J c (OW P ⟨dst, .call { callee := .invoke x name, args := xs, argTypes := ats }, ty, pos, after, g⟩ K Q) S H := by
  refine J.perm hT.perm (fun a w hfr hs => ?_)
  show Oper.upon P _ a K Q ((execOp a.eval _).run P w)
  have he : a.eval x = .iface T rv := hfr.ev hx
  have ha : xs.map a.eval = args.toArray := by rw [← mapEv hfr _ _ (evs_map _ _ hargs)]; apply Array.ext'; simp
  have hr : (execOp a.eval ⟨dst, .call { callee := .invoke x name, args := xs, argTypes := ats }, ty, pos, after, g⟩).run P w = .ok (.enter f all) w := by
    have hc := callFunc_run (args := all) (w := w) hf hb hn
    have e1 : (#[Value.iface T rv] ++ args.toArray)[0]? = some (Value.iface T rv) := by simp
    have e2 : (#[Value.iface T rv] ++ args.toArray).extract 1 (#[Value.iface T rv] ++ args.toArray).size = args.toArray := by
      apply Array.ext'; simp [List.extract_eq_take_drop]
    have e3 : (#[v0] ++ args.toArray : Array Value) = all := by rw [hall]; apply Array.ext'; simp
    unfold execOp
    simp only [resolve, he, ha, Sem.run_bind, Sem.run_pure, Result.andThen_ok, invoke, e1, e2, callMethod]
    have hp : (program).run P w = .ok P w := rfl
    simp only [hp, Result.andThen_ok, hm, e3]
    exact hc
  rw [hr]
  simp only [Oper.upon]
  rw [List.flatten_append] at hs
  refine (spec w (hs.has.sub (List.sublist_append_left _ _))).mono ?_
  rintro e w' ⟨v, H', rfl, hp, hst⟩
  exact h v H' hp a w' hfr (by rw [List.flatten_append]; exact hs.call hst)
end
end Go.Proofs.YE
namespace Go.Proofs
open YE
instance : Siz Tryz.prog 66 1 := ⟨by kernel_rfl⟩
instance : Zero Tryz.prog 68 (.pointer none) := ⟨by kernel_rfl⟩
instance : One Tryz.prog 68 := ⟨by kernel_rfl, by kernel_rfl⟩
instance : PtrT Tryz.prog 68 123 := ⟨by kernel_rfl⟩
instance : ZeroC Tryz.prog 68 ([.pointer none]) := ⟨by kernel_rfl⟩
instance : InfoOf Tryz.prog 68 ([.pointer none]) 1 8 := ⟨by kernel_rfl⟩
instance : Siz Tryz.prog 68 1 := ⟨by kernel_rfl⟩
instance : Zero Tryz.prog 72 (.int .i64 0) := ⟨by kernel_rfl⟩
instance : One Tryz.prog 72 := ⟨by kernel_rfl, by kernel_rfl⟩
instance : IntOf Tryz.prog 72 .i64 := ⟨by kernel_rfl⟩
instance : ZeroC Tryz.prog 72 ([.int .i64 0]) := ⟨by kernel_rfl⟩
instance : InfoOf Tryz.prog 72 ([.int .i64 0]) 1 8 := ⟨by kernel_rfl⟩
instance : Siz Tryz.prog 72 1 := ⟨by kernel_rfl⟩
instance : Siz Tryz.prog 73 1 := ⟨by kernel_rfl⟩
instance : Zero Tryz.prog 121 (.nilIface) := ⟨by kernel_rfl⟩
instance : One Tryz.prog 121 := ⟨by kernel_rfl, by kernel_rfl⟩
instance : ZeroC Tryz.prog 121 ([.nilIface]) := ⟨by kernel_rfl⟩
instance : InfoOf Tryz.prog 121 ([.nilIface]) 1 16 := ⟨by kernel_rfl⟩
instance : Siz Tryz.prog 121 1 := ⟨by kernel_rfl⟩
instance : Agg Tryz.prog 123 6 := ⟨by kernel_rfl, by kernel_rfl⟩
instance : Zero Tryz.prog 123 (.agg #[.nilIface, .int .i64 0, .int .i64 0, .slice none 0 0, .int .i64 0, .int .i64 0]) := ⟨by kernel_rfl⟩
instance : ZeroC Tryz.prog 123 ([.nilIface, .int .i64 0, .int .i64 0, .slice none 0 0, .int .i64 0, .int .i64 0]) := ⟨by kernel_rfl⟩
instance : InfoOf Tryz.prog 123 ([.nilIface, .int .i64 0, .int .i64 0, .slice none 0 0, .int .i64 0, .int .i64 0]) 6 72 := ⟨by kernel_rfl⟩
instance : Siz Tryz.prog 123 6 := ⟨by kernel_rfl⟩
instance : Fld Tryz.prog 123 0 121 0 1 := ⟨by kernel_rfl, by kernel_rfl, by kernel_rfl⟩ -- s
instance : Fld Tryz.prog 123 1 61 1 2 := ⟨by kernel_rfl, by kernel_rfl, by kernel_rfl⟩ -- g
instance : Fld Tryz.prog 123 2 25 3 1 := ⟨by kernel_rfl, by kernel_rfl, by kernel_rfl⟩ -- segs
instance : Fld Tryz.prog 123 3 3 4 1 := ⟨by kernel_rfl, by kernel_rfl, by kernel_rfl⟩ -- budget
instance : Fld Tryz.prog 123 4 3 5 1 := ⟨by kernel_rfl, by kernel_rfl, by kernel_rfl⟩ -- left
instance : Zero Tryz.prog 195 (.slice none 0 0) := ⟨by kernel_rfl⟩
instance : One Tryz.prog 195 := ⟨by kernel_rfl, by kernel_rfl⟩
instance : SliceOf Tryz.prog 195 197 3 24 := ⟨by kernel_rfl, by kernel_rfl, by kernel_rfl⟩
instance : ZeroC Tryz.prog 195 ([.slice none 0 0]) := ⟨by kernel_rfl⟩
instance : InfoOf Tryz.prog 195 ([.slice none 0 0]) 1 24 := ⟨by kernel_rfl⟩
instance : Siz Tryz.prog 195 1 := ⟨by kernel_rfl⟩
instance : Agg Tryz.prog 197 3 := ⟨by kernel_rfl, by kernel_rfl⟩
instance : Zero Tryz.prog 197 (.agg #[.int .i64 0, .int .i64 0, .bool false]) := ⟨by kernel_rfl⟩
instance : ZeroC Tryz.prog 197 ([.int .i64 0, .int .i64 0, .bool false]) := ⟨by kernel_rfl⟩
instance : InfoOf Tryz.prog 197 ([.int .i64 0, .int .i64 0, .bool false]) 3 24 := ⟨by kernel_rfl⟩
instance : Siz Tryz.prog 197 3 := ⟨by kernel_rfl⟩
instance : Fld Tryz.prog 197 0 3 0 1 := ⟨by kernel_rfl, by kernel_rfl, by kernel_rfl⟩ -- Live
instance : Fld Tryz.prog 197 1 3 1 1 := ⟨by kernel_rfl, by kernel_rfl, by kernel_rfl⟩ -- Age
instance : Fld Tryz.prog 197 2 4 2 1 := ⟨by kernel_rfl, by kernel_rfl, by kernel_rfl⟩ -- Barred
end Go.Proofs
namespace Go.Proofs.YF
open Go YE
attribute [local irreducible] CW LW OW XW AW PW HW RW AK HK AP HP DX CI LI OI BW RE MW J Gives
set_option maxHeartbeats 1000000
set_option maxRecDepth 20000
set_option maxHeartbeats 4000000

theorem und24 : Tryz.prog.underlying 24 = some (.pointer 92) := by kernel_rfl
def cut (v m : Int) : Int := max 0 (min v m)
theorem CutC (v m : Int) : Sp Tryz.prog 81 #[i64 v, i64 m] [] (Is (i64 (cut v m))) := by
  refine Sp.intro Tryz.func81 rfl rfl rfl fun w K => ?_
  (try refine wk ?_); (repeat (intro b; (try refine wk ?_)))
  refine J.doneT (res1 rfl rfl) ⟨rfl, rfl⟩
/-- A cleaner's cells. -/
abbrev clcells (bst : Nat) (N : Nat) (sv : Value) (bud left : Int) : List Value := [.iface 24 (ptr bst 0), i64 (48 + 32 * (N : Int)), i64 32, sv, i64 bud, i64 left]
theorem cbuilt (bst N : Nat) (rv : Value) (bud : Int) (h : rv.oneCell' = true) : Tryz.prog.built 123 [(0, .iface 24 (ptr bst 0)), (1, gv N), (2, rv), (3, i64 bud)] = some (clcells bst N rv bud 0).toArray := by
  cases rv <;> first | (exfalso; simp [Value.oneCell'] at h; done) | kernel_rfl
theorem CleanNew (bst N : Nat) (sv : Value) (segs : List Int) (Hg : Heap) (hsv : Ints sv segs Hg) (hn : segs.length ≤ 100000) (bud : Int) :
    Sp Tryz.prog 45 #[ptr bst 0, gv N, sv, i64 bud] [Hg] (fun v H => ∃ cb rv m Hr, v = ptr cb 0 ∧ Sl 3 1 rv m (ints segs) Hr ∧ H = [[(cb, .cells (clcells bst N rv (cut bud 1000) 0) 123 (0, 0))], Hr, Hg]) := by
  refine Sp.intro Tryz.func45 rfl rfl rfl fun w K => ?_
  (try refine wk ?_); (repeat (intro b; (try refine wk ?_)))
  obtain ⟨b5, rfl⟩ : ∃ q, q = b := ⟨b, rfl⟩
  refine J.any Tryz.mixed [[(b5, .cells [i64 (48 + 32 * (N : Int)), i64 32] 61 (0, 0))]] ?_
  refine J.tk 0 ?_
  (first | refine J.tk 1 ?_ | (refine J.tkO 1 ?_; first | refine J.giveT (Gives.mkIface und24 rfl rfl rfl) rfl rfl ?_))
  (first | refine J.tk 2 ?_ | (refine J.tkO 2 ?_; first | refine J.giveT (Gives.mkIface und24 rfl rfl rfl) rfl rfl ?_))
  refine J.tk 3 ?_
  refine J.tk 5 ?_
  refine J.on 4 ?_ -- call
  refine J.callT (Clone sv segs Hg hsv hn) ?_
  rintro rv _ ⟨m, Hr, hr, rfl⟩
  have hr1 := hr.one
  refine J.pn ?_
  refine J.hd ?_
  refine J.on 6 ?_ -- call
  refine J.callT (CutC bud 1000) ?_
  rintro _ _ ⟨rfl, rfl⟩; refine J.pn ?_
  refine J.hd ?_
  (first | refine J.tk 7 ?_ | (refine J.tkO 7 ?_; first | refine J.giveT (Gives.mkIface und24 rfl rfl rfl) rfl rfl ?_ | refine J.giveT (Gives.build (vs := [(0, .iface 24 (ptr bst 0)), (1, gv N), (2, rv), (3, i64 (cut bud 1000))]) (cells := (clcells bst N rv (cut bud 1000) 0).toArray) rfl rfl (cbuilt bst N rv _ hr1)) rfl rfl ?_))
  refine J.on 8 ?_ -- box
  refine J.isBox ?_; refine J.box (cs := clcells bst N rv (cut bud 1000) 0) rfl rfl rfl rfl rfl ?_; intro cb
  refine J.hd ?_
  refine J.tk 9 ?_
  refine J.al ?_
  (try refine wk ?_); (repeat (intro b; (try refine wk ?_)))
  refine J.doneT (res1 rfl rfl) ⟨cb, rv, m, Hr, rfl, hr, rfl⟩
theorem Left (cb bst N : Nat) (sv : Value) (bud left : Int) : Sp Tryz.prog 47 #[ptr cb 0] [[(cb, .cells (clcells bst N sv bud left) 123 (0, 0))]] (fun v H => v = i64 left ∧ H = [[(cb, .cells (clcells bst N sv bud left) 123 (0, 0))]]) := by
  refine Sp.intro Tryz.func47 rfl rfl rfl fun w K => ?_
  (try refine wk ?_); (repeat (intro b; (try refine wk ?_)))
  refine J.doneT (res1 rfl rfl) ⟨rfl, rfl⟩
theorem cut_in (v m : Int) (hm : 0 ≤ m) : 0 ≤ cut v m ∧ cut v m ≤ m := by unfold cut; omega
theorem Earn (cb bst N : Nat) (sv : Value) (bud left ticks : Int) (hb : 0 ≤ bud ∧ bud ≤ 1000) (hl : 0 ≤ left ∧ left ≤ 1000) : Sp Tryz.prog 46 #[ptr cb 0, i64 ticks] [[(cb, .cells (clcells bst N sv bud left) 123 (0, 0))]]
    (fun _ H => H = [[(cb, .cells (clcells bst N sv bud (min (left + cut ticks 1000 * bud) 1000)) 123 (0, 0))]]) := by
  refine Sp.intro Tryz.func46 rfl rfl rfl fun w K => ?_
  have hc := cut_in ticks 1000 (by omega)
  have hm : 0 ≤ cut ticks 1000 * bud ∧ cut ticks 1000 * bud ≤ 1000000 := by
    refine ⟨Int.mul_nonneg hc.1 hb.1, ?_⟩
    have h1 : cut ticks 1000 * bud ≤ 1000 * bud := Int.mul_le_mul_of_nonneg_right hc.2 hb.1
    omega
  refine J.anyK Tryz.mixed [[(cb, .cells (clcells bst N sv bud left) 123 (0, 0))]] 16 ?_
  refine J.tkF 0 ?_
  refine J.tkF 1 ?_
  refine J.tkF 2 ?_
  refine J.tkF 3 ?_
  refine J.tkK 4 [4, 12, 13, 14, 15, 16] ?_
  refine J.tkF 5 ?_
  refine J.tkF 7 ?_
  refine J.tkF 8 ?_
  refine J.tkF 9 ?_
  refine J.tkK 10 [10, 11, 12, 13, 14, 15, 16] ?_
  refine J.onK 6 ?_ -- call
  refine J.callT (CutC ticks 1000) ?_
  rintro _ _ ⟨rfl, rfl⟩; refine J.pn ?_
  refine J.heldK subBy ?_
  refine J.tkF 11 ?_
  refine J.tkF 12 ?_
  refine J.tkF 13 ?_
  refine J.tkF 14 ?_
  refine J.tkF 15 ?_
  refine J.onK 16 ?_ -- store
  (refine wo ?_; (try intro b))
  refine J.pastK (by kernel_rfl) ?_
  refine J.alK ?_
  refine J.doneNT (fun a w _ _ => res0 rfl a.tmps w) rfl
end Go.Proofs.YF
namespace Go.Proofs.YF
open Go YE
attribute [local irreducible] CW LW OW XW AW PW HW RW AK HK AP HP DX CI LI OI BW RE MW J Gives
set_option maxHeartbeats 1000000
set_option maxRecDepth 20000
set_option maxHeartbeats 4000000

theorem Index (gb cap : Nat) (xs : List Int) (rest : List Value) (y : Int) (hn : xs.length ≤ 100000) : Sp Tryz.prog 98 #[slc gb 0 xs.length cap, i64 y] [[(gb, .cells (ints xs ++ rest) 3 (0, 0))]]
    (fun v H => (∃ r : Int, v = i64 r ∧ ((r = -1 ∧ y ∉ xs) ∨ (0 ≤ r ∧ xs[r.toNat]? = some y))) ∧ H = [[(gb, .cells (ints xs ++ rest) 3 (0, 0))]]) := by
  refine Sp.intro Tryz.func98 rfl rfl rfl fun w K => ?_
  (try refine wk ?_); (repeat (intro b; (try refine wk ?_)))
  refine J.pick [0, 1, 6, 7, 8] rfl ?_
  refine J.loopT (α := Nat) (fun k => [(0, slc gb 0 xs.length cap), (1, i64 y), (6, slc gb 0 xs.length cap), (7, i64 xs.length), (8, i64 k)]) (fun _ => [[(gb, .cells (ints xs ++ rest) 3 (0, 0))]]) (fun k => k ≤ xs.length ∧ y ∉ xs.take k) (fun k => xs.length - k) 0 ⟨Nat.zero_le _, by simp⟩ ?_
  rintro k ⟨hk, hno⟩
  by_cases hkn : k < xs.length
  · have hki : (k : Int) < xs.length := by omega
    have hkr : (0 : Int) ≤ k ∧ (k : Int) < xs.length := by omega
    have hlk : (ints xs ++ rest)[0 + (k : Int).toNat * 1]? = some (i64 xs[k]) := by
      have : 0 + (k : Int).toNat * 1 = k := by simp
      rw [this, List.getElem?_append_left (by simp [ints]; omega)]
      simp [hkn]
    by_cases he : y = xs[k]
    · have heb : (y == xs[k]) = true := beq_iff_eq.2 he
      (try refine wk ?_); (repeat (intro b; (try refine wk ?_)))
      refine J.op rfl ?_; refine J.isLoad ?_; refine J.give (Gives.load1 0 rfl rfl rfl hlk) rfl rfl ?_
      (try refine wk ?_); (repeat (intro b; (try refine wk ?_)))
      refine J.doneT (res1 rfl rfl) ⟨⟨k, rfl, .inr ⟨by omega, by rw [Int.toNat_natCast, List.getElem?_eq_getElem hkn, he]⟩⟩, rfl⟩
    · have heb : (y == xs[k]) = false := beq_eq_false_iff_ne.2 he
      (try refine wk ?_); (repeat (intro b; (try refine wk ?_)))
      refine J.op rfl ?_; refine J.isLoad ?_; refine J.give (Gives.load1 0 rfl rfl rfl hlk) rfl rfl ?_
      (try refine wk ?_); (repeat (intro b; (try refine wk ?_)))
      refine J.pick [0, 1, 6, 7, 8] rfl ?_
      exact J.roundT (k + 1) ⟨hkn, by rw [List.take_add_one, List.getElem?_eq_getElem hkn]; intro hm; rcases List.mem_append.1 hm with h | h; exact hno h; exact he (List.mem_singleton.1 h)⟩ (by show xs.length - (k + 1) < xs.length - k; omega)
  · obtain rfl : xs.length = k := by omega
    (try refine wk ?_); (repeat (intro b; (try refine wk ?_)))
    refine J.doneT (res1 rfl rfl) ⟨⟨-1, rfl, .inl ⟨rfl, by rwa [List.take_length] at hno⟩⟩, rfl⟩

theorem Age0 (bst lb ld : Nat) (lN : Int) (st : Sto) (hlg : st.lg = ptr lb 0) (gen : Int) (x : Slv) (fv : Value) (ll : List (Int × Int)) (le : List MapEntry) (lc : Nat) (hlm : MapOK ki ki ll le lc) (seg : Int) (h : aget ll seg = none ∨ seg = x.seg) :
    Sp Tryz.prog 273 #[ptr bst 0, i64 seg] [[(bst, .cells st.cells 92 (0, 0))], [(lb, .cells (lcell ld lN gen x fv) 190 (0, 0))], [(st.last, .map le lc)]]
      (fun v H => v = i64 0 ∧ H = [[(bst, .cells st.cells 92 (0, 0))], [(lb, .cells (lcell ld lN gen x fv) 190 (0, 0))], [(st.last, .map le lc)]]) := by
  refine Sp.intro Tryz.func273 rfl rfl rfl fun w K => ?_
  obtain ⟨d, N, gen', sv, lg, num, m0, m1, m2, m3, base, last, vs, vt, vn, vu, vg⟩ := st
  simp only at hlg
  subst hlg
  (try refine wk ?_); (repeat (intro b; (try refine wk ?_)))
  refine J.cl (PlaceOf lb ld lN gen x fv) ?_
  rintro _ _ ⟨rfl, rfl⟩; refine J.pn ?_
  (try refine wk ?_); (repeat (intro b; (try refine wk ?_)))
  refine J.fr [[(last, .map le lc)]] ?_
  refine J.op rfl ?_; refine J.isLookup ?_; refine J.give (Gives.lookOk (enc := ki) (encV := ki) (m := ll) (k := seg) 0 keyI hlm rfl rfl rfl rfl) rfl rfl ?_
  cases ha : aget ll seg with
  | none =>
    refine J.slot 19 (.tuple #[i64 0, .bool false]) rfl rfl ?_
    (try refine wk ?_); (repeat (intro b; (try refine wk ?_)))
    refine J.doneT (res1 rfl rfl) ⟨rfl, rfl⟩
  | some v =>
    have hs : seg = x.seg := by
      rcases h with h | h
      · rw [ha] at h; cases h
      · exact h
    subst hs
    have hxx : (x.seg == x.seg) = true := beq_self_eq_true _
    refine J.slot 19 (.tuple #[i64 v, .bool true]) rfl rfl ?_
    (try refine wk ?_); (repeat (intro b; (try refine wk ?_)))
    refine J.doneT (res1 rfl rfl) ⟨rfl, rfl⟩

/-- How much of a segment lives in a store that has just been founded. -/
def useF (s : Int) : Int := if s = 0 then 2 else 0
theorem hm51 : secM (xF 0 1) = 51 := rfl
theorem UsageF (bst sg cap q am im : Nat) (be : List MapEntry) (bc : Nat) (y : Nd) (d N : Nat) (hN : 8 ≤ N ∧ N ≤ 500) (gen : Int) (lg : Value) (num : Int) (base last : Nat) (vs vt vn vu vg : Value) (segs : List Int) (rest : List Value) (hn : segs.length ≤ 1000) (hbm : MapOK ki kp [(1, q)] be bc) :
    Sp Tryz.prog 56 #[ptr bst 0] [[(bst, .cells (Sto.cells ⟨d, N, gen, slc sg 0 segs.length cap, lg, num, secM (xF 0 1), 0, 0, 0, base, last, vs, vt, vn, vu, vg⟩) 92 (0, 0))], [(sg, .cells (ints segs ++ rest) 3 (0, 0))], [(base, .map be bc)], [(q, .cells (stcells y (sec0 0 1) am im) 108 (0, 0))], [(am, .map [] 0)], [(im, .map [] 0)]]
      (fun v H => ∃ Hr, Sl 3 1 v segs.length (ints (segs.map useF)) Hr ∧ H = Hr :: [[(bst, .cells (Sto.cells ⟨d, N, gen, slc sg 0 segs.length cap, lg, num, secM (xF 0 1), 0, 0, 0, base, last, vs, vt, vn, vu, vg⟩) 92 (0, 0))], [(sg, .cells (ints segs ++ rest) 3 (0, 0))], [(base, .map be bc)], [(q, .cells (stcells y (sec0 0 1) am im) 108 (0, 0))], [(am, .map [] 0)], [(im, .map [] 0)]]) := by
  refine Sp.intro Tryz.func56 rfl rfl rfl fun w K => ?_
  have h49 : 48 ≤ sec0 0 1 ∧ sec0 0 1 < 48 + N * 32 := by
    have : sec0 0 1 = 49 := rfl
    omega
  (try refine wk ?_); (repeat (intro b; (try refine wk ?_)))
  refine J.cl (Lives1 bst q am im 0 0 ⟨d, N, gen, slc sg 0 segs.length cap, lg, num, secM (xF 0 1), 0, 0, 0, base, last, vs, vt, vn, vu, vg⟩ N hN rfl y (sec0 0 1) h49 be bc hbm) ?_
  rintro _ _ ⟨lv, le, lc, rfl, hlm, rfl⟩; refine J.pn ?_
  (try refine wk ?_); (repeat (intro b; (try refine wk ?_)))
  refine J.pick [0, 3, 17, 18] rfl ?_
  refine J.loopT (α := Nat × Int × List MapEntry × Nat) (fun z => [(0, ptr bst 0), (3, .map (some lv)), (17, .agg #[i64 (secM (xF 0 1)), i64 0, i64 0, i64 0]), (18, i64 z.1)])
    (fun z => [(lv, .map z.2.2.1 z.2.2.2)] :: [[(bst, .cells (Sto.cells ⟨d, N, gen, slc sg 0 segs.length cap, lg, num, secM (xF 0 1), 0, 0, 0, base, last, vs, vt, vn, vu, vg⟩) 92 (0, 0))], [(sg, .cells (ints segs ++ rest) 3 (0, 0))], [(base, .map be bc)], [(q, .cells (stcells y (sec0 0 1) am im) 108 (0, 0))], [(am, .map [] 0)], [(im, .map [] 0)]]) (fun z => z.1 ≤ 4 ∧ z.2.1 = (if z.1 = 0 then 1 else 2) ∧ MapOK ki ki [(0, z.2.1)] z.2.2.1 z.2.2.2) (fun z => 4 - z.1) (0, 1, le, lc) ⟨by omega, rfl, hlm⟩ ?_
  rintro ⟨k, c, le2, lc2⟩ ⟨hk, hc, hl2⟩
  simp only at hk hc hl2
  by_cases hk4 : k < 4
  · have hkc : k = 0 ∨ k = 1 ∨ k = 2 ∨ k = 3 := by omega
    have hN2 : 8 ≤ (N : Int) ∧ (N : Int) ≤ 500 := by omega
    rcases hkc with rfl | rfl | rfl | rfl
    · obtain rfl : c = 1 := hc
      (try refine wk ?_); (repeat (intro b; (try refine wk ?_)))
      refine J.cl (At N (secM (xF 0 1)) (by omega) (by omega) (by decide) (by decide)) ?_
      rintro _ _ ⟨rfl, rfl⟩; refine J.pn ?_
      refine J.slot 27 (.tuple #[i64 0, i64 3, .bool true]) rfl ?_ ?_
      · unfold atv
        rw [hm51, if_pos ⟨by omega, by omega⟩]; rfl
      (try refine wk ?_); (repeat (intro b; (try refine wk ?_)))
      refine J.fr [[(lv, .map le2 lc2)]] ?_
      refine J.op rfl ?_; refine J.isLookup ?_; refine J.give (Gives.look (enc := ki) (encV := ki) (m := [(0, 1)]) (k := 0) 0 keyI hl2 rfl rfl rfl rfl) rfl rfl ?_
      refine J.slot 34 (i64 1) rfl rfl ?_
      (try refine wk ?_); (repeat (intro b; (try refine wk ?_)))
      refine J.slot 35 (i64 2) rfl rfl ?_
      refine J.op rfl ?_; refine J.isMapUpdate ?_; refine J.mapUpdate (enc := ki) (encV := ki) (m := [(0, 1)]) (k := 0) (v := 2) 0 keyI hl2 rfl rfl rfl rfl rfl rfl (fun _ _ => rfl) ?_
      intro le3 lc3 hl3
      refine J.nm ?_
      (try refine wk ?_); (repeat (intro b; (try refine wk ?_)))
      refine J.pick [0, 3, 17, 18] rfl ?_
      exact J.roundT (1, 2, le3, lc3) ⟨by show 1 ≤ 4; omega, rfl, hl3⟩ (by show 4 - 1 < 4 - 0; omega)
    all_goals
      obtain rfl : c = 2 := hc
      (try refine wk ?_); (repeat (intro b; (try refine wk ?_)))
      refine J.cl (At N 0 (by omega) (by omega) (by decide) (by decide)) ?_
      rintro _ _ ⟨rfl, rfl⟩; refine J.pn ?_
      refine J.slot 27 (.tuple #[i64 0, i64 0, .bool false]) rfl ?_ ?_
      · unfold atv
        rw [if_neg (by omega)]
      (try refine wk ?_); (repeat (intro b; (try refine wk ?_)))
      refine J.pick [0, 3, 17, 18] rfl ?_
      first | exact J.roundT (2, 2, le2, lc2) ⟨by show 2 ≤ 4; omega, rfl, hl2⟩ (by show 4 - 2 < 4 - 1; omega) | exact J.roundT (3, 2, le2, lc2) ⟨by show 3 ≤ 4; omega, rfl, hl2⟩ (by show 4 - 3 < 4 - 2; omega) | exact J.roundT (4, 2, le2, lc2) ⟨by show 4 ≤ 4; omega, rfl, hl2⟩ (by show 4 - 4 < 4 - 3; omega)
  · obtain rfl : k = 4 := by omega
    obtain rfl : c = 2 := hc
    (try refine wk ?_); (repeat (intro b; (try refine wk ?_)))
    refine J.pick [0, 3, 9, 40, 41, 42] rfl ?_
    refine J.nilAt 0 rfl ?_
    refine J.loopT (α := Nat × Value × Heap) (fun z => [(0, ptr bst 0), (3, .map (some lv)), (9, z.2.1), (40, slc sg 0 segs.length cap), (41, i64 segs.length), (42, i64 z.1)]) (fun z => z.2.2 :: [(lv, .map le2 lc2)] :: [[(bst, .cells (Sto.cells ⟨d, N, gen, slc sg 0 segs.length cap, lg, num, secM (xF 0 1), 0, 0, 0, base, last, vs, vt, vn, vu, vg⟩) 92 (0, 0))], [(sg, .cells (ints segs ++ rest) 3 (0, 0))], [(base, .map be bc)], [(q, .cells (stcells y (sec0 0 1) am im) 108 (0, 0))], [(am, .map [] 0)], [(im, .map [] 0)]])
      (fun z => z.1 ≤ segs.length ∧ Sl 3 1 z.2.1 z.1 (ints ((segs.map useF).take z.1)) z.2.2) (fun z => segs.length - z.1) (0, nils, []) ⟨Nat.zero_le _, by exact Sl.nil 3 1⟩ ?_
    rintro ⟨j, v, Hv⟩ ⟨hj, hs⟩
    simp only at hj hs
    obtain ⟨vp, vc, rfl⟩ := Sl.slice hs
    by_cases hjn : j < segs.length
    · have hji : (j : Int) < segs.length := by omega
      have hjr : (0 : Int) ≤ j ∧ (j : Int) < segs.length := by omega
      have hlj : (ints segs ++ rest)[0 + (j : Int).toNat * 1]? = some (i64 segs[j]) := by
        have : 0 + (j : Int).toNat * 1 = j := by simp
        rw [this, List.getElem?_append_left (by simp [ints]; omega)]
        simp [hjn]
      have htk : (segs.map useF).take (j + 1) = (segs.map useF).take j ++ [useF segs[j]] := by
        rw [List.take_add_one, List.getElem?_map, List.getElem?_eq_getElem hjn]; rfl
      generalize segs[j] = z at *
      (try refine wk ?_); (repeat (intro b; (try refine wk ?_)))
      refine J.op rfl ?_; refine J.isLoad ?_; refine J.give (Gives.load1 3 rfl rfl rfl hlj) rfl rfl ?_
      (try refine wk ?_); (repeat (intro b; (try refine wk ?_)))
      refine J.op rfl ?_; refine J.isLookup ?_; refine J.give (Gives.look (enc := ki) (encV := ki) (m := [(0, 2)]) (k := z) 1 keyI hl2 rfl rfl rfl rfl) rfl rfl ?_
      refine J.slot 49 (i64 (useF z)) rfl ?_ ?_
      · unfold useF aget
        by_cases hz : z = 0
        · subst hz; rfl
        · simp [hz, Ne.symm hz]
      refine J.op rfl ?_; refine J.isBuildSlice ?_; refine J.buildSl [i64 (useF z)] (cs := [i64 (useF z)]) rfl rfl rfl rfl rfl (fun v hv => by rw [List.mem_singleton.1 hv]; rfl) rfl rfl rfl ?_
      intro bn
      refine J.front 1 rfl rfl ?_
      refine J.nm ?_
      refine J.op rfl ?_; refine J.isBuiltin ?_; refine J.append (m := 1) (news := [i64 (useF z)]) 0 hs rfl rfl rfl rfl rfl (by simp [Value.oneCell']) (by simp) (by simp) ⟨by omega, by have : maxLen = 9223372036854775807 := rfl; omega⟩ rfl ?_
      intro v2 H2 h2
      have h3 : Sl 3 1 v2 (j + 1) (ints ((segs.map useF).take (j + 1))) H2 := by rw [htk]; simpa [ints] using h2
      have h1 := h3.one
      (try refine wk ?_); (repeat (intro b; (try refine wk ?_)))
      refine J.pick [0, 3, 9, 40, 41, 42] rfl ?_
      exact J.roundT (j + 1, v2, H2) ⟨hjn, h3⟩ (by show segs.length - (j + 1) < segs.length - j; omega)
    · obtain rfl : j = segs.length := by omega
      (try refine wk ?_); (repeat (intro b; (try refine wk ?_)))
      refine J.doneT (res1 rfl rfl) ⟨Hv, ?_, rfl⟩
      have := List.take_length (l := segs.map useF)
      rw [List.length_map] at this
      rw [this] at hs
      exact hs
/-- Segments that may not be cleaned. -/
theorem CleanNo (bst sg cap lb ld : Nat) (d N : Nat) (gen : Int) (num m0 m1 m2 m3 : Int) (base last : Nat) (vs vt vn vu vg : Value) (segs : List Int) (rest : List Value) (hn : segs.length ≤ 1000) (lN lgen : Int) (x : Slv) (fv : Value) (seg most : Int) (h : seg ∉ segs ∨ seg = x.seg ∨ seg = x.next) :
    Sp Tryz.prog 55 #[ptr bst 0, i64 seg, i64 most] [[(bst, .cells (Sto.cells ⟨d, N, gen, slc sg 0 segs.length cap, ptr lb 0, num, m0, m1, m2, m3, base, last, vs, vt, vn, vu, vg⟩) 92 (0, 0))], [(sg, .cells (ints segs ++ rest) 3 (0, 0))], [(lb, .cells (lcell ld lN lgen x fv) 190 (0, 0))]]
      (fun v H => v = .tuple #[i64 0, i64 1] ∧ H = [[(bst, .cells (Sto.cells ⟨d, N, gen, slc sg 0 segs.length cap, ptr lb 0, num, m0, m1, m2, m3, base, last, vs, vt, vn, vu, vg⟩) 92 (0, 0))], [(sg, .cells (ints segs ++ rest) 3 (0, 0))], [(lb, .cells (lcell ld lN lgen x fv) 190 (0, 0))]]) := by
  refine Sp.intro Tryz.func55 rfl rfl rfl fun w K => ?_
  have hIx := Index sg cap segs rest seg (by omega)
  have hE : ∀ v H, (fun (v : Value) (H : Hs) => (∃ r : Int, v = i64 r ∧ ((r = -1 ∧ seg ∉ segs) ∨ (0 ≤ r ∧ segs[r.toNat]? = some seg))) ∧ H = [[(sg, .cells (ints segs ++ rest) 3 (0, 0))]]) v H → ∃ r : Int, v = i64 r ∧ (r < 0 ∨ (0 ≤ r ∧ (seg = x.seg ∨ seg = x.next))) ∧ H = [[(sg, .cells (ints segs ++ rest) 3 (0, 0))]] := by
    rintro v H ⟨⟨r, hv, hr⟩, hH⟩
    refine ⟨r, hv, ?_, hH⟩
    rcases hr with ⟨hr, _⟩ | ⟨hr, hm⟩
    · exact .inl (by omega)
    · rcases h with h | h
      · exact absurd (List.mem_of_getElem? hm) h
      · exact .inr ⟨hr, h⟩
  (try refine wk ?_); (repeat (intro b; (try refine wk ?_)))
  refine J.cl (hIx.weak hE) ?_
  rintro _ _ ⟨r, rfl, hr, rfl⟩; refine J.pn ?_
  by_cases h0 : r < 0
  · (try refine wk ?_); (repeat (intro b; (try refine wk ?_)))
    refine J.cl (PlaceOf lb ld lN lgen x fv) ?_
    rintro _ _ ⟨rfl, rfl⟩; refine J.pn ?_
    (try refine wk ?_); (repeat (intro b; (try refine wk ?_)))
    refine J.doneT (res2 rfl rfl rfl) ⟨rfl, rfl⟩
  · by_cases h1 : seg = x.seg
    · have hb1 : (seg == x.seg) = true := beq_iff_eq.2 h1
      (try refine wk ?_); (repeat (intro b; (try refine wk ?_)))
      refine J.cl (PlaceOf lb ld lN lgen x fv) ?_
      rintro _ _ ⟨rfl, rfl⟩; refine J.pn ?_
      (try refine wk ?_); (repeat (intro b; (try refine wk ?_)))
      refine J.doneT (res2 rfl rfl rfl) ⟨rfl, rfl⟩
    · have hb1 : (seg == x.seg) = false := beq_eq_false_iff_ne.2 h1
      have hb2 : (seg == x.next) = true := beq_iff_eq.2 (by rcases hr with hr | ⟨_, hr | hr⟩; exact absurd hr h0; exact absurd hr h1; exact hr)
      (try refine wk ?_); (repeat (intro b; (try refine wk ?_)))
      refine J.cl (PlaceOf lb ld lN lgen x fv) ?_
      rintro _ _ ⟨rfl, rfl⟩; refine J.pn ?_
      (try refine wk ?_); (repeat (intro b; (try refine wk ?_)))
      refine J.doneT (res2 rfl rfl rfl) ⟨rfl, rfl⟩
end Go.Proofs.YF
namespace Go.Proofs.YF
open Go YE
attribute [local irreducible] CW LW OW XW AW PW HW RW AK HK AP HP DX CI LI OI BW RE MW J Gives
set_option maxHeartbeats 1000000
set_option maxRecDepth 20000
set_option maxHeartbeats 4000000

theorem UCut (v a b : Int) : Sp Tryz.prog 185 #[i64 v, i64 a, i64 b] [] (Is (i64 (max a (min v b)))) := by
  refine Sp.intro Tryz.func185 rfl rfl rfl fun w K => ?_
  (try refine wk ?_); (repeat (intro b; (try refine wk ?_)))
  refine J.doneT (res1 rfl rfl) ⟨rfl, rfl⟩
/-- Segments of which each is barred. -/
def ucell (p : Int × Int) : List Value := [i64 p.1, i64 p.2, .bool true]
def ucells (l : List (Int × Int)) : List Value := l.flatMap ucell
theorem PickNone (size : Int) (pb cap : Nat) (l : List (Int × Int)) (rest : List Value) (hn : l.length ≤ 1000) : Sp Tryz.prog 129 #[i64 size, slc pb 0 l.length cap] [[(pb, .cells (ucells l ++ rest) 197 (0, 0))]]
    (fun v H => v = .tuple #[i64 0, .bool false] ∧ H = [[(pb, .cells (ucells l ++ rest) 197 (0, 0))]]) := by
  refine Sp.intro Tryz.func129 rfl rfl rfl fun w K => ?_
  (try refine wk ?_); (repeat (intro b; (try refine wk ?_)))
  refine J.cl (UCut size 1 64) ?_
  rintro _ _ ⟨rfl, rfl⟩; refine J.pn ?_
  (try refine wk ?_); (repeat (intro b; (try refine wk ?_)))
  generalize max 1 (min size 64) = sz
  refine J.pick [0, 1, 6, 7, 11, 12, 13] rfl ?_
  refine J.loopT (α := Nat) (fun k => [(0, i64 sz), (1, slc pb 0 l.length cap), (6, i64 0), (7, .bool false), (11, slc pb 0 l.length cap), (12, i64 l.length), (13, i64 k)]) (fun _ => [[(pb, .cells (ucells l ++ rest) 197 (0, 0))]]) (fun k => k ≤ l.length) (fun k => l.length - k) 0 (Nat.zero_le _) ?_
  intro k hk
  by_cases hkn : k < l.length
  · have hki : (k : Int) < l.length := by omega
    have hkr : (0 : Int) ≤ k ∧ (k : Int) < l.length := by omega
    have hlk : (ucells l ++ rest)[0 + (k : Int).toNat * 3 + 2]? = some (.bool true) := by
      have e := flat_take (f := ucell) (m := 3) l k l[k] rest (fun _ _ => rfl) (List.getElem?_eq_getElem hkn)
      have e2 : (((l.flatMap ucell ++ rest).drop (k * 3)).take 3)[2]? = some (.bool true) := by rw [e]; rfl
      rw [List.getElem?_take, if_pos (by omega), List.getElem?_drop] at e2
      rw [Int.toNat_natCast, Nat.zero_add]; exact e2
    (try refine wk ?_); (repeat (intro b; (try refine wk ?_)))
    refine J.op rfl ?_; refine J.isLoad ?_; refine J.give (Gives.load1 0 rfl rfl rfl hlk) rfl rfl ?_
    (try refine wk ?_); (repeat (intro b; (try refine wk ?_)))
    refine J.pick [0, 1, 6, 7, 11, 12, 13] rfl ?_
    exact J.roundT (k + 1) hkn (by show l.length - (k + 1) < l.length - k; omega)
  · obtain rfl : l.length = k := by omega
    (try refine wk ?_); (repeat (intro b; (try refine wk ?_)))
    refine J.doneT (res2 rfl rfl rfl) ⟨rfl, rfl⟩
theorem mSlot (b : Nat) (w : World) : (Go.method (Tryz.prog.types.size + Made.depth) 24 (ptr b 0) "Slot").run Tryz.prog w = .ok (38, ptr b 0) w := by kernel_rfl
theorem mUsage (b : Nat) (w : World) : (Go.method (Tryz.prog.types.size + Made.depth) 24 (ptr b 0) "Usage").run Tryz.prog w = .ok (56, ptr b 0) w := by kernel_rfl
theorem mAge (b : Nat) (w : World) : (Go.method (Tryz.prog.types.size + Made.depth) 24 (ptr b 0) "Age").run Tryz.prog w = .ok (273, ptr b 0) w := by kernel_rfl
theorem mClean (b : Nat) (w : World) : (Go.method (Tryz.prog.types.size + Made.depth) 24 (ptr b 0) "Clean").run Tryz.prog w = .ok (55, ptr b 0) w := by kernel_rfl
theorem StepNo (cb bst N0 : Nat) (csv : Value) (bud left : Int) (sg cap lb ld : Nat) (d N : Nat) (gen : Int) (num m0 m1 m2 m3 : Int) (base last : Nat) (vs vt vn vu vg : Value) (segs : List Int) (rest : List Value) (hn : segs.length ≤ 1000) (lN lgen : Int) (x : Slv) (fv : Value) (seg : Int) (h0 : 0 ≤ seg) (h : seg ∉ segs ∨ seg = x.seg ∨ seg = x.next) :
    Sp Tryz.prog 48 #[ptr cb 0, i64 seg] [[(cb, .cells (clcells bst N0 csv bud left) 123 (0, 0))], [(bst, .cells (Sto.cells ⟨d, N, gen, slc sg 0 segs.length cap, ptr lb 0, num, m0, m1, m2, m3, base, last, vs, vt, vn, vu, vg⟩) 92 (0, 0))], [(sg, .cells (ints segs ++ rest) 3 (0, 0))], [(lb, .cells (lcell ld lN lgen x fv) 190 (0, 0))]]
      (fun v H => v = .tuple #[i64 0, i64 1] ∧ H = [[(cb, .cells (clcells bst N0 csv bud left) 123 (0, 0))], [(bst, .cells (Sto.cells ⟨d, N, gen, slc sg 0 segs.length cap, ptr lb 0, num, m0, m1, m2, m3, base, last, vs, vt, vn, vu, vg⟩) 92 (0, 0))], [(sg, .cells (ints segs ++ rest) 3 (0, 0))], [(lb, .cells (lcell ld lN lgen x fv) 190 (0, 0))]]) := by
  refine Sp.intro Tryz.func48 rfl rfl rfl fun w K => ?_
  have hs0 : ¬ seg < 0 := by omega
  (try refine wk ?_); (repeat (intro b; (try refine wk ?_)))
  refine J.any Tryz.mixed [[(cb, .cells (clcells bst N0 csv bud left) 123 (0, 0))]] ?_
  refine J.tk 0 ?_
  (first | refine J.tk 1 ?_ | (refine J.tkO 1 ?_; first | refine J.giveT (Gives.nilCheckI rfl rfl) rfl rfl ?_))
  refine J.tk 2 ?_
  (first | refine J.tk 3 ?_ | (refine J.tkO 3 ?_; first | refine J.giveT (Gives.nilCheckI rfl rfl) rfl rfl ?_))
  refine J.tk 4 ?_
  refine J.tk 5 ?_
  (first | refine J.tk 6 ?_ | (refine J.tkO 6 ?_; first | refine J.giveT (Gives.nilCheckI rfl rfl) rfl rfl ?_))
  refine J.tk 7 ?_
  (first | refine J.tk 8 ?_ | (refine J.tkO 8 ?_; first | refine J.giveT (Gives.nilCheckI rfl rfl) rfl rfl ?_))
  (first | refine J.tk 9 ?_ | (refine J.tkO 9 ?_; first | refine J.giveT (Gives.nilCheckI rfl rfl) rfl rfl ?_))
  refine J.tk 10 ?_
  refine J.on 11 ?_ -- call
  refine J.callI (mClean bst) (CleanNo bst sg cap lb ld d N gen num m0 m1 m2 m3 base last vs vt vn vu vg segs rest hn lN lgen x fv seg left h) ?_
  rintro _ _ ⟨rfl, rfl⟩; refine J.pn ?_
  refine J.hd ?_
  refine J.tk 12 ?_
  refine J.tk 13 ?_
  refine J.tk 14 ?_
  refine J.tk 15 ?_
  refine J.tk 16 ?_
  refine J.al ?_
  (try refine wk ?_); (repeat (intro b; (try refine wk ?_)))
  refine J.doneT (res2 rfl rfl rfl) ⟨rfl, rfl⟩
section
variable (cb bst N0 csb ccap : Nat) (crest : List Value) (bud left : Int) (sg cap lb ld : Nat) (d N : Nat) (hN : 8 ≤ N ∧ N ≤ 500) (gen : Int) (num : Int) (base last s1 t1 n1 u1 g1 q am im : Nat) (be : List MapEntry) (bc : Nat) (y : Nd) (segs : List Int) (rest : List Value) (hn0 : 0 < segs.length) (hn : segs.length ≤ 1000) (lN : Int) (x : Slv) (fv : Value) (hx0 : x.seg = 0) (hbm : MapOK ki kp [(1, q)] be bc) (le : List MapEntry) (lc : Nat) (hlm : MapOK ki ki [(0, 2)] le lc)
include hN hn0 hn hx0 hbm hlm
theorem PickF : Sp Tryz.prog 82 #[ptr cb 0] [[(cb, .cells (clcells bst N0 (slc csb 0 segs.length ccap) bud left) 123 (0, 0))], [(csb, .cells (ints segs ++ crest) 3 (0, 0))], [(bst, .cells (stQ d N gen (slc sg 0 segs.length cap) (ptr lb 0) num (secM (xF 0 1)) 0 0 0 base last s1 t1 n1 u1 g1).cells 92 (0, 0))], [(sg, .cells (ints segs ++ rest) 3 (0, 0))], [(lb, .cells (lcell ld lN gen x fv) 190 (0, 0))], [(base, .map be bc)], [(q, .cells (stcells y (sec0 0 1) am im) 108 (0, 0))], [(am, .map [] 0)], [(im, .map [] 0)], [(last, .map le lc)]] (fun v H => v = .tuple #[i64 0, .bool false] ∧ H = [[(cb, .cells (clcells bst N0 (slc csb 0 segs.length ccap) bud left) 123 (0, 0))], [(csb, .cells (ints segs ++ crest) 3 (0, 0))], [(bst, .cells (stQ d N gen (slc sg 0 segs.length cap) (ptr lb 0) num (secM (xF 0 1)) 0 0 0 base last s1 t1 n1 u1 g1).cells 92 (0, 0))], [(sg, .cells (ints segs ++ rest) 3 (0, 0))], [(lb, .cells (lcell ld lN gen x fv) 190 (0, 0))], [(base, .map be bc)], [(q, .cells (stcells y (sec0 0 1) am im) 108 (0, 0))], [(am, .map [] 0)], [(im, .map [] 0)], [(last, .map le lc)]]) := by
  refine Sp.intro Tryz.func82 rfl rfl rfl fun w K => ?_
  (try refine wk ?_); (repeat (intro b; (try refine wk ?_)))
  refine J.op rfl ?_; refine J.callI (mSlot bst) (SlotQ bst s1 t1 n1 u1 g1 d N gen (slc sg 0 segs.length cap) num (secM (xF 0 1)) 0 0 0 base last lb ld lN x fv) ?_
  rintro _ _ ⟨rfl, rfl⟩; refine J.pn ?_
  (try refine wk ?_); (repeat (intro b; (try refine wk ?_)))
  obtain ⟨b4, rfl⟩ : ∃ q, q = b := ⟨b, rfl⟩
  refine J.op rfl ?_; refine J.callI (mUsage bst) (UsageF bst sg cap q am im be bc y d N hN gen (ptr lb 0) num base last (.map (some s1)) (.map (some t1)) (.map (some n1)) (.map (some u1)) (.map (some g1)) segs rest hn hbm) ?_
  rintro uv _ ⟨Hu, hu, rfl⟩
  have hu1 := hu.one
  refine J.pn ?_
  (try refine wk ?_); (repeat (intro b; (try refine wk ?_)))
  obtain ⟨up, uc, rfl⟩ := Sl.slice hu
  refine J.pick [0, 4, 5, 6, 24, 25, 26] rfl ?_
  refine J.nilAt 0 rfl ?_
  refine J.loopT (α := Nat × Value × Heap) (fun z => [(0, ptr cb 0), (4, ptr b4 0), (5, .slice up segs.length uc), (6, z.2.1), (24, slc csb 0 segs.length ccap), (25, i64 segs.length), (26, i64 z.1)])
    (fun z => z.2.2 :: Hu :: [(b4, .cells ({ x with num := num, m0 := secM (xF 0 1), m1 := 0, m2 := 0, m3 := 0 } : Slv).cells 57 (0, 0))] :: [[(cb, .cells (clcells bst N0 (slc csb 0 segs.length ccap) bud left) 123 (0, 0))], [(csb, .cells (ints segs ++ crest) 3 (0, 0))], [(bst, .cells (stQ d N gen (slc sg 0 segs.length cap) (ptr lb 0) num (secM (xF 0 1)) 0 0 0 base last s1 t1 n1 u1 g1).cells 92 (0, 0))], [(sg, .cells (ints segs ++ rest) 3 (0, 0))], [(lb, .cells (lcell ld lN gen x fv) 190 (0, 0))], [(base, .map be bc)], [(q, .cells (stcells y (sec0 0 1) am im) 108 (0, 0))], [(am, .map [] 0)], [(im, .map [] 0)], [(last, .map le lc)]])
    (fun z => z.1 ≤ segs.length ∧ Sl 197 3 z.2.1 z.1 (ucells ((segs.map fun s => (useF s, (0 : Int))).take z.1)) z.2.2) (fun z => segs.length - z.1) (0, nils, []) ⟨Nat.zero_le _, by exact Sl.nil 197 3⟩ ?_
  rintro ⟨k, v, Hv⟩ ⟨hk, hs⟩
  simp only at hk hs
  obtain ⟨vp, vc, rfl⟩ := Sl.slice hs
  by_cases hkn : k < segs.length
  · rcases hu with ⟨_, hz, _, _⟩ | ⟨ub, ucap, urest, hue, rfl, _, _, _, _⟩
    · omega
    cases hue
    have hki : (k : Int) < segs.length := by omega
    have hkr : (0 : Int) ≤ k ∧ (k : Int) < segs.length := by omega
    have hlk : (ints segs ++ crest)[0 + (k : Int).toNat * 1]? = some (i64 segs[k]) := by
      have : 0 + (k : Int).toNat * 1 = k := by simp
      rw [this, List.getElem?_append_left (by simp [ints]; omega)]
      simp [hkn]
    have hlu : (ints (segs.map useF) ++ urest)[0 + (k : Int).toNat * 1]? = some (i64 (useF segs[k])) := by
      have : 0 + (k : Int).toNat * 1 = k := by simp
      rw [this, List.getElem?_append_left (by simp [ints]; omega)]
      simp [hkn]
    have htk : (segs.map fun s => (useF s, (0 : Int))).take (k + 1) = (segs.map fun s => (useF s, (0 : Int))).take k ++ [(useF segs[k], 0)] := by
      rw [List.take_add_one, List.getElem?_map, List.getElem?_eq_getElem hkn]; rfl
    generalize segs[k] = z at *
    have hAge := Age0 bst lb ld lN (stQ d N gen (slc sg 0 segs.length cap) (ptr lb 0) num (secM (xF 0 1)) 0 0 0 base last s1 t1 n1 u1 g1) rfl gen x fv [(0, 2)] le lc hlm z (by
      rw [hx0]
      by_cases hz : z = 0
      · exact .inr hz
      · exact .inl (by unfold aget; simp [Ne.symm hz]))
    have hc : (z == x.seg) = true ∨ ((z == x.seg) = false ∧ (z == x.next) = true) ∨ ((z == x.seg) = false ∧ (z == x.next) = false ∧ (useF z == 0) = true) := by
      by_cases h1 : z = x.seg
      · exact .inl (beq_iff_eq.2 h1)
      · by_cases h2 : z = x.next
        · exact .inr (.inl ⟨beq_eq_false_iff_ne.2 h1, beq_iff_eq.2 h2⟩)
        · refine .inr (.inr ⟨beq_eq_false_iff_ne.2 h1, beq_eq_false_iff_ne.2 h2, ?_⟩)
          have : ¬ z = 0 := fun h => h1 (by rw [h, hx0])
          unfold useF; rw [if_neg this]; rfl
    rcases hc with hb1 | ⟨hb1, hb2⟩ | ⟨hb1, hb2, hb3⟩
    all_goals
      (try refine wk ?_); (repeat (intro b; (try refine wk ?_)))
      refine J.op rfl ?_; refine J.isLoad ?_; refine J.give (Gives.load1 4 rfl rfl rfl hlk) rfl rfl ?_
      (try refine wk ?_); (repeat (intro b; (try refine wk ?_)))
      refine J.any Tryz.mixed [[(cb, .cells (clcells bst N0 (slc csb 0 segs.length ccap) bud left) 123 (0, 0))], [(ub, .cells (ints (segs.map useF) ++ urest) 3 (0, 0))], [(b4, .cells ({ x with num := num, m0 := secM (xF 0 1), m1 := 0, m2 := 0, m3 := 0 } : Slv).cells 57 (0, 0))]] ?_
      refine J.tk 0 ?_
      refine J.tk 1 ?_
      refine J.tk 2 ?_
      (first | refine J.tk 3 ?_ | (refine J.tkO 3 ?_; first | refine J.giveT (Gives.load1 1 rfl rfl rfl hlu) rfl rfl ?_))
      (first | refine J.tk 4 ?_ | (refine J.tkO 4 ?_; first | refine J.giveT (Gives.load1 1 rfl rfl rfl hlu) rfl rfl ?_))
      refine J.tk 5 ?_
      (first | refine J.tk 6 ?_ | (refine J.tkO 6 ?_; first | refine J.giveT (Gives.load1 1 rfl rfl rfl hlu) rfl rfl ?_))
      refine J.tk 7 ?_
      (first | refine J.tk 8 ?_ | (refine J.tkO 8 ?_; first | refine J.giveT (Gives.load1 1 rfl rfl rfl hlu) rfl rfl ?_))
      refine J.tk 9 ?_
      refine J.tk 11 ?_
      refine J.tk 12 ?_
      (first | refine J.tk 13 ?_ | (refine J.tkO 13 ?_; first | refine J.giveT (Gives.load1 1 rfl rfl rfl hlu) rfl rfl ?_))
      (first | refine J.tk 14 ?_ | (refine J.tkO 14 ?_; first | refine J.giveT (Gives.load1 1 rfl rfl rfl hlu) rfl rfl ?_))
      refine J.on 10 ?_ -- call
      refine J.callI (mAge bst) hAge ?_
      rintro _ _ ⟨rfl, rfl⟩; refine J.pn ?_
      refine J.hd ?_
      refine J.tk 15 ?_
      (first | refine J.tkW 16 ?_ | refine J.tkE 16 ?_ | refine J.tkN 16 ?_ | refine J.tkX 16 ?_ | refine J.tkU 16 ?_)
      (first | refine J.tkW 17 ?_ | refine J.tkE 17 ?_ | refine J.tkN 17 ?_ | refine J.tkX 17 ?_ | refine J.tkU 17 ?_)
      (first | refine J.tkW 18 ?_ | (refine J.tkWO 18 ?_; first | refine J.giveT (Gives.load1 1 rfl rfl rfl hlu) rfl rfl ?_ | refine J.giveT (Gives.build (vs := [(0, i64 (useF z)), (1, i64 0), (2, .bool true)]) (cells := #[i64 (useF z), i64 0, .bool true]) rfl rfl rfl) rfl rfl ?_ | refine J.giveT (Gives.build (vs := [(0, i64 (useF z)), (1, i64 0), (2, .bool (useF z == 0))]) (cells := #[i64 (useF z), i64 0, .bool true]) rfl rfl (by rw [hb3]; rfl)) rfl rfl ?_) | refine J.tkE 18 ?_ | (refine J.tkEO 18 ?_; first | refine J.giveT (Gives.load1 1 rfl rfl rfl hlu) rfl rfl ?_ | refine J.giveT (Gives.build (vs := [(0, i64 (useF z)), (1, i64 0), (2, .bool true)]) (cells := #[i64 (useF z), i64 0, .bool true]) rfl rfl rfl) rfl rfl ?_ | refine J.giveT (Gives.build (vs := [(0, i64 (useF z)), (1, i64 0), (2, .bool (useF z == 0))]) (cells := #[i64 (useF z), i64 0, .bool true]) rfl rfl (by rw [hb3]; rfl)) rfl rfl ?_) | refine J.tkN 18 ?_ | refine J.tkX 18 ?_ | refine J.tkU 18 ?_)
      (first | refine J.tkW 19 ?_ | (refine J.tkWO 19 ?_; first | refine J.giveT (Gives.load1 1 rfl rfl rfl hlu) rfl rfl ?_ | refine J.giveT (Gives.build (vs := [(0, i64 (useF z)), (1, i64 0), (2, .bool true)]) (cells := #[i64 (useF z), i64 0, .bool true]) rfl rfl rfl) rfl rfl ?_ | refine J.giveT (Gives.build (vs := [(0, i64 (useF z)), (1, i64 0), (2, .bool (useF z == 0))]) (cells := #[i64 (useF z), i64 0, .bool true]) rfl rfl (by rw [hb3]; rfl)) rfl rfl ?_) | refine J.tkE 19 ?_ | (refine J.tkEO 19 ?_; first | refine J.giveT (Gives.load1 1 rfl rfl rfl hlu) rfl rfl ?_ | refine J.giveT (Gives.build (vs := [(0, i64 (useF z)), (1, i64 0), (2, .bool true)]) (cells := #[i64 (useF z), i64 0, .bool true]) rfl rfl rfl) rfl rfl ?_ | refine J.giveT (Gives.build (vs := [(0, i64 (useF z)), (1, i64 0), (2, .bool (useF z == 0))]) (cells := #[i64 (useF z), i64 0, .bool true]) rfl rfl (by rw [hb3]; rfl)) rfl rfl ?_) | refine J.tkN 19 ?_ | refine J.tkX 19 ?_ | refine J.tkU 19 ?_)
      refine J.tk 20 ?_
      refine J.tk 21 ?_
      (first | refine J.tkW 22 ?_ | refine J.tkE 22 ?_ | refine J.tkN 22 ?_ | refine J.tkX 22 ?_ | refine J.tkU 22 ?_)
      (first | refine J.tkW 23 ?_ | refine J.tkE 23 ?_ | refine J.tkN 23 ?_ | refine J.tkX 23 ?_ | refine J.tkU 23 ?_)
      (first | refine J.tkW 24 ?_ | (refine J.tkWO 24 ?_; first | refine J.giveT (Gives.load1 1 rfl rfl rfl hlu) rfl rfl ?_ | refine J.giveT (Gives.build (vs := [(0, i64 (useF z)), (1, i64 0), (2, .bool true)]) (cells := #[i64 (useF z), i64 0, .bool true]) rfl rfl rfl) rfl rfl ?_ | refine J.giveT (Gives.build (vs := [(0, i64 (useF z)), (1, i64 0), (2, .bool (useF z == 0))]) (cells := #[i64 (useF z), i64 0, .bool true]) rfl rfl (by rw [hb3]; rfl)) rfl rfl ?_) | refine J.tkE 24 ?_ | (refine J.tkEO 24 ?_; first | refine J.giveT (Gives.load1 1 rfl rfl rfl hlu) rfl rfl ?_ | refine J.giveT (Gives.build (vs := [(0, i64 (useF z)), (1, i64 0), (2, .bool true)]) (cells := #[i64 (useF z), i64 0, .bool true]) rfl rfl rfl) rfl rfl ?_ | refine J.giveT (Gives.build (vs := [(0, i64 (useF z)), (1, i64 0), (2, .bool (useF z == 0))]) (cells := #[i64 (useF z), i64 0, .bool true]) rfl rfl (by rw [hb3]; rfl)) rfl rfl ?_) | refine J.tkN 24 ?_ | refine J.tkX 24 ?_ | refine J.tkU 24 ?_)
      (first | refine J.tkW 25 ?_ | (refine J.tkWO 25 ?_; first | refine J.giveT (Gives.load1 1 rfl rfl rfl hlu) rfl rfl ?_ | refine J.giveT (Gives.build (vs := [(0, i64 (useF z)), (1, i64 0), (2, .bool true)]) (cells := #[i64 (useF z), i64 0, .bool true]) rfl rfl rfl) rfl rfl ?_ | refine J.giveT (Gives.build (vs := [(0, i64 (useF z)), (1, i64 0), (2, .bool (useF z == 0))]) (cells := #[i64 (useF z), i64 0, .bool true]) rfl rfl (by rw [hb3]; rfl)) rfl rfl ?_) | refine J.tkE 25 ?_ | (refine J.tkEO 25 ?_; first | refine J.giveT (Gives.load1 1 rfl rfl rfl hlu) rfl rfl ?_ | refine J.giveT (Gives.build (vs := [(0, i64 (useF z)), (1, i64 0), (2, .bool true)]) (cells := #[i64 (useF z), i64 0, .bool true]) rfl rfl rfl) rfl rfl ?_ | refine J.giveT (Gives.build (vs := [(0, i64 (useF z)), (1, i64 0), (2, .bool (useF z == 0))]) (cells := #[i64 (useF z), i64 0, .bool true]) rfl rfl (by rw [hb3]; rfl)) rfl rfl ?_) | refine J.tkN 25 ?_ | refine J.tkX 25 ?_ | refine J.tkU 25 ?_)
      (first | refine J.tkW 26 ?_ | (refine J.tkWO 26 ?_; first | refine J.giveT (Gives.load1 1 rfl rfl rfl hlu) rfl rfl ?_ | refine J.giveT (Gives.build (vs := [(0, i64 (useF z)), (1, i64 0), (2, .bool true)]) (cells := #[i64 (useF z), i64 0, .bool true]) rfl rfl rfl) rfl rfl ?_ | refine J.giveT (Gives.build (vs := [(0, i64 (useF z)), (1, i64 0), (2, .bool (useF z == 0))]) (cells := #[i64 (useF z), i64 0, .bool true]) rfl rfl (by rw [hb3]; rfl)) rfl rfl ?_) | refine J.tkE 26 ?_ | (refine J.tkEO 26 ?_; first | refine J.giveT (Gives.load1 1 rfl rfl rfl hlu) rfl rfl ?_ | refine J.giveT (Gives.build (vs := [(0, i64 (useF z)), (1, i64 0), (2, .bool true)]) (cells := #[i64 (useF z), i64 0, .bool true]) rfl rfl rfl) rfl rfl ?_ | refine J.giveT (Gives.build (vs := [(0, i64 (useF z)), (1, i64 0), (2, .bool (useF z == 0))]) (cells := #[i64 (useF z), i64 0, .bool true]) rfl rfl (by rw [hb3]; rfl)) rfl rfl ?_) | refine J.tkN 26 ?_ | refine J.tkX 26 ?_ | refine J.tkU 26 ?_)
      refine J.tk 27 ?_
      (first | refine J.tk 28 ?_ | (refine J.tkO 28 ?_; first | refine J.giveT (Gives.load1 1 rfl rfl rfl hlu) rfl rfl ?_ | refine J.giveT (Gives.build (vs := [(0, i64 (useF z)), (1, i64 0), (2, .bool true)]) (cells := #[i64 (useF z), i64 0, .bool true]) rfl rfl rfl) rfl rfl ?_ | refine J.giveT (Gives.build (vs := [(0, i64 (useF z)), (1, i64 0), (2, .bool (useF z == 0))]) (cells := #[i64 (useF z), i64 0, .bool true]) rfl rfl (by rw [hb3]; rfl)) rfl rfl ?_))
      refine J.on 29 ?_ -- buildSlice
      refine J.isBuildSlice ?_; refine J.buildSl [.agg #[i64 (useF z), i64 0, .bool true]] (cs := [i64 (useF z), i64 0, .bool true]) rfl rfl rfl rfl rfl (fun v hv => by rw [List.mem_singleton.1 hv]; rfl) rfl rfl rfl ?_
      intro bn
      refine J.hd ?_
      refine J.on 30 ?_ -- call
      refine J.fr [Hv] ?_
      refine J.isBuiltin ?_; refine J.append (m := 1) (news := [i64 (useF z), i64 0, .bool true]) 0 hs rfl rfl rfl rfl rfl (by simp [Value.oneCell']) (by simp) (by simp) ⟨by omega, by have : maxLen = 9223372036854775807 := rfl; omega⟩ rfl ?_
      intro v2 H2 h2
      have h3 : Sl 197 3 v2 (k + 1) (ucells ((segs.map fun s => (useF s, (0 : Int))).take (k + 1))) H2 := by
        rw [htk]
        have : ucells ((segs.map fun s => (useF s, (0 : Int))).take k ++ [(useF z, 0)]) = ucells ((segs.map fun s => (useF s, (0 : Int))).take k) ++ [i64 (useF z), i64 0, .bool true] := by simp [ucells, ucell]
        rw [this]; exact h2
      have h4 := h3.one
      refine J.hd ?_
      refine J.tk 31 ?_
      refine J.al ?_
      (try refine wk ?_); (repeat (intro b; (try refine wk ?_)))
      refine J.pick [0, 4, 5, 6, 24, 25, 26] rfl ?_
      exact J.roundT (k + 1, v2, H2) ⟨hkn, h3⟩ (by show segs.length - (k + 1) < segs.length - k; omega)
  · obtain rfl : k = segs.length := by omega
    have hlen : (segs.map fun s => (useF s, (0 : Int))).length = segs.length := by simp
    rw [List.take_of_length_le (by omega)] at hs
    have hp : Sp Tryz.prog 129 #[i64 32, .slice vp segs.length vc] [Hv] (fun v H => v = .tuple #[i64 0, .bool false] ∧ H = [Hv]) := by
      rcases hs with ⟨_, hz, _, _⟩ | ⟨pb, pcap, prest, hpe, rfl, _, _, _, _⟩
      · omega
      · have := PickNone 32 pb pcap (segs.map fun s => (useF s, (0 : Int))) prest (by omega)
        rw [hlen] at this
        rw [hpe]; exact this
    (try refine wk ?_); (repeat (intro b; (try refine wk ?_)))
    refine J.cl hp ?_
    rintro _ _ ⟨rfl, rfl⟩; refine J.pn ?_
    (try refine wk ?_); (repeat (intro b; (try refine wk ?_)))
    refine J.doneT (res2 rfl rfl rfl) ⟨rfl, rfl⟩
theorem StepF : Sp Tryz.prog 48 #[ptr cb 0, i64 (-1)] [[(cb, .cells (clcells bst N0 (slc csb 0 segs.length ccap) bud left) 123 (0, 0))], [(csb, .cells (ints segs ++ crest) 3 (0, 0))], [(bst, .cells (stQ d N gen (slc sg 0 segs.length cap) (ptr lb 0) num (secM (xF 0 1)) 0 0 0 base last s1 t1 n1 u1 g1).cells 92 (0, 0))], [(sg, .cells (ints segs ++ rest) 3 (0, 0))], [(lb, .cells (lcell ld lN gen x fv) 190 (0, 0))], [(base, .map be bc)], [(q, .cells (stcells y (sec0 0 1) am im) 108 (0, 0))], [(am, .map [] 0)], [(im, .map [] 0)], [(last, .map le lc)]] (fun v H => v = .tuple #[i64 0, i64 6] ∧ H = [[(cb, .cells (clcells bst N0 (slc csb 0 segs.length ccap) bud left) 123 (0, 0))], [(csb, .cells (ints segs ++ crest) 3 (0, 0))], [(bst, .cells (stQ d N gen (slc sg 0 segs.length cap) (ptr lb 0) num (secM (xF 0 1)) 0 0 0 base last s1 t1 n1 u1 g1).cells 92 (0, 0))], [(sg, .cells (ints segs ++ rest) 3 (0, 0))], [(lb, .cells (lcell ld lN gen x fv) 190 (0, 0))], [(base, .map be bc)], [(q, .cells (stcells y (sec0 0 1) am im) 108 (0, 0))], [(am, .map [] 0)], [(im, .map [] 0)], [(last, .map le lc)]]) := by
  refine Sp.intro Tryz.func48 rfl rfl rfl fun w K => ?_
  (try refine wk ?_); (repeat (intro b; (try refine wk ?_)))
  refine J.cl (PickF cb bst N0 csb ccap crest bud left sg cap lb ld d N hN gen num base last s1 t1 n1 u1 g1 q am im be bc y segs rest hn0 hn lN x fv hx0 hbm le lc hlm) ?_
  rintro _ _ ⟨rfl, rfl⟩; refine J.pn ?_
  (try refine wk ?_); (repeat (intro b; (try refine wk ?_)))
  refine J.doneT (res2 rfl rfl rfl) ⟨rfl, rfl⟩
end
end Go.Proofs.YF
