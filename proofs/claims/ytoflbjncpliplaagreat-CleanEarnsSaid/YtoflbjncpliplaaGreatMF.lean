/- Part MF of the walks that a statement of this seat is proved by: laws of memory, then the functions one by one. -/
import Derived.Test.YtoflbjncpliplaaGreatME
namespace Go.Proofs.YF
open Go YE
attribute [local irreducible] CW LW OW XW AW PW HW RW AK HK AP HP DX CI LI OI BW RE MW J Gives
set_option maxHeartbeats 1000000
set_option maxRecDepth 20000

/-- A store's own cells. -/
structure Sto where (d : Nat) (N gen : Int) (sv lg : Value) (num m0 m1 m2 m3 : Int) (base last : Nat) (vs vt vn vu vg : Value)
abbrev Sto.cells (x : Sto) : List Value := [ptr x.d 0, i64 (48 + 32 * x.N), i64 32, i64 2, i64 x.gen, x.sv, x.lg, i64 x.num, i64 x.m0, i64 x.m1, i64 x.m2, i64 x.m3, .map (some x.base), .map (some x.last), x.vs, x.vt, x.vn, x.vu, x.vg]
abbrev Sto.now (x : Sto) (s t n u g : Nat) : Sto := { x with vs := .map (some s), vt := .map (some t), vn := .map (some n), vu := .map (some u), vg := .map (some g) }
abbrev nows (s t n u g : Nat) : Hs := [[(s, .map [] 0)], [(t, .map [] 0)], [(n, .map [] 0)], [(u, .map [] 0)], [(g, .map [] 0)]]
theorem AbortJ (b : Nat) (x : Sto) (w : World) (K : List Nat) : J ⟨w, K, Tryz.f23.ntmps⟩ (CW Tryz.prog Tryz.f23.body.get! (bodyPost Tryz.prog Tryz.f23 (Ret w K (fun _ H => ∃ s t n u g, H = [(b, .cells (x.now s t n u g).cells 92 (0, 0))] :: nows s t n u g)))) [(0, ptr b 0)] [[(b, .cells x.cells 92 (0, 0))]] := by
  show J _ (CW Tryz.prog (Code.region 0 _ _) _) _ _
  refine J.region ?_
  refine J.op rfl ?_
  (refine wo ?_; (try intro b))
  refine J.op rfl ?_; refine J.isMakeMap ?_; refine J.makeMap rfl rfl rfl ?_; intro s
  refine J.op rfl ?_; refine J.isMakeMap ?_; refine J.makeMap rfl rfl rfl ?_; intro t
  refine J.op rfl ?_; refine J.isMakeMap ?_; refine J.makeMap rfl rfl rfl ?_; intro n
  refine J.op rfl ?_; refine J.isMakeMap ?_; refine J.makeMap rfl rfl rfl ?_; intro u
  refine J.op rfl ?_; refine J.isMakeMap ?_; refine J.makeMap rfl rfl rfl ?_; intro g
  refine J.op rfl ?_; refine J.isBuild ?_; refine J.give (Gives.build (vs := [(0, .map (some s)), (1, .map (some t)), (2, .map (some n)), (3, .map (some u)), (4, .map (some g))]) (cells := #[.map (some s), .map (some t), .map (some n), .map (some u), .map (some g)]) rfl rfl rfl) rfl rfl ?_
  (try refine wk ?_); (repeat (intro b; (try refine wk ?_)))
  refine J.front 0 rfl rfl ?_
  refine J.front 1 rfl rfl ?_
  refine J.front 2 rfl rfl ?_
  refine J.front 3 rfl rfl ?_
  refine J.front 4 rfl rfl ?_
  refine J.front 5 rfl rfl ?_
  refine J.nm ?_
  refine J.done (fun a w _ _ => res0 rfl a.tmps w) ?_
  exact ⟨s, t, n, u, g, rfl⟩
theorem Abort (b : Nat) (x : Sto) : Sp Tryz.prog 23 #[ptr b 0] [[(b, .cells x.cells 92 (0, 0))]] (fun _ H => ∃ s t n u g, H = [(b, .cells (x.now s t n u g).cells 92 (0, 0))] :: nows s t n u g) :=
  Sp.intro Tryz.func23 rfl rfl rfl fun w K => AbortJ b x w K
theorem AbortD (b : Nat) (x : Sto) : SpD Tryz.prog 23 #[ptr b 0] [[(b, .cells x.cells 92 (0, 0))]] (fun _ H => ∃ s t n u g, H = [(b, .cells (x.now s t n u g).cells 92 (0, 0))] :: nows s t n u g) :=
  SpD.intro Tryz.func23 rfl rfl rfl fun w K => AbortJ b x w K

theorem built76 (d : Nat) (N gen : Int) (rv : Value) (base last : Nat) (h : rv.oneCell' = true) : Tryz.prog.built 92 [(0, ptr d 0), (1, gv N), (2, i64 2), (3, i64 gen), (4, rv), (8, .map (some base)), (9, .map (some last))] = some #[ptr d 0, i64 (48 + 32 * N), i64 32, i64 2, i64 gen, rv, .pointer none, i64 0, i64 0, i64 0, i64 0, i64 0, .map (some base), .map (some last), .map none, .map none, .map none, .map none, .map none] := by
  cases rv <;> first | (exfalso; simp [Value.oneCell'] at h; done) | kernel_rfl
theorem Made (d : Nat) (N gen : Int) (sv : Value) (segs : List Int) (Hg : Heap) (hsv : Ints sv segs Hg) (hn : segs.length ≤ 100000) :
    Sp Tryz.prog 76 #[ptr d 0, gv N, i64 2, i64 gen, sv] [Hg] (fun v H => ∃ b base last s t n u g rv m Hr, v = ptr b 0 ∧ Sl 3 1 rv m (ints segs) Hr ∧
      H = [(b, .cells (({ d := d, N := N, gen := gen, sv := rv, lg := .pointer none, num := 0, m0 := 0, m1 := 0, m2 := 0, m3 := 0, base := base, last := last, vs := .map none, vt := .map none, vn := .map none, vu := .map none, vg := .map none } : Sto).now s t n u g).cells 92 (0, 0))] :: (nows s t n u g ++ [[(base, .map [] 0)], [(last, .map [] 0)], Hr, Hg])) := by
  refine Sp.intro Tryz.func76 rfl rfl rfl fun w K => ?_
  refine J.seq ?_; refine J.region ?_; refine J.op rfl ?_
  (refine wo ?_; (try intro b))
  obtain ⟨b6, rfl⟩ : ∃ q, q = b := ⟨b, rfl⟩
  refine J.op rfl ?_
  (refine wo ?_; (try intro b))
  refine J.nil ?_; refine J.thenN ?_
  refine J.cut (α := Nat × Nat × Nat × Value × Nat × Heap) (fun z => [(11, ptr z.1 0)])
    (fun z => [[(z.1, .cells ({ d := d, N := N, gen := gen, sv := z.2.2.2.1, lg := .pointer none, num := 0, m0 := 0, m1 := 0, m2 := 0, m3 := 0, base := z.2.1, last := z.2.2.1, vs := .map none, vt := .map none, vn := .map none, vu := .map none, vg := .map none } : Sto).cells 92 (0, 0))], [(z.2.1, .map [] 0)], [(z.2.2.1, .map [] 0)], z.2.2.2.2.2, Hg])
    (fun z => Sl 3 1 z.2.2.2.1 z.2.2.2.2.1 (ints segs) z.2.2.2.2.2) (fun z hz => ?_) ?_
  · obtain ⟨b, base, last, rv, m, Hr⟩ := z
    (try refine wk ?_); (repeat (intro b; (try refine wk ?_)))
    (refine J.op rfl ?_; refine J.isCallF ?_; refine J.call (H1 := [_]) (Abort b _) rfl rfl rfl rfl ?_)
    rintro _ _ ⟨s, t, n, u, g, rfl⟩; refine J.put rfl ?_; refine J.nm ?_
    (try refine wk ?_); (repeat (intro b; (try refine wk ?_)))
    refine J.done_ret (res1 rfl rfl) ?_
    exact ⟨b, base, last, s, t, n, u, g, rv, m, Hr, rfl, hz, rfl⟩
  · skip
    refine J.any Tryz.mixed [[(b6, .cells [i64 (48 + 32 * N), i64 32] 61 (0, 0))]] ?_
    refine J.tk 0 ?_
    refine J.tk 1 ?_
    refine J.tk 2 ?_
    refine J.tk 3 ?_
    refine J.tk 4 ?_
    -- READY: [(5, 'call', None, 'file.go:61'), (6, 'makeMap', None, 'file.go:61'), (7, 'makeMap', None, 'file.go:61')]
    refine J.each [5, 6, 7] (by kernel_rfl) (by simp) (fun i hi => ?_)
    simp only [List.mem_cons, List.not_mem_nil, or_false] at hi
    rcases hi with rfl | rfl | rfl
    · skip
      refine J.wpOp rfl rfl ?_
      refine J.front 1 rfl rfl ?_
      refine J.nm ?_
      refine J.isCallF ?_; refine J.call (H1 := [_]) (Clone sv segs Hg hsv hn) rfl rfl rfl rfl ?_
      rintro rv _ ⟨m, Hr, hr, rfl⟩; refine J.put rfl ?_; refine J.nm ?_
      have hr1 := hr.one
      refine J.hd ?_
      -- READY: [(6, 'makeMap', None, 'file.go:61'), (7, 'makeMap', None, 'file.go:61')]
      refine J.each [6, 7] (by kernel_rfl) (by simp) (fun i hi => ?_)
      simp only [List.mem_cons, List.not_mem_nil, or_false] at hi
      rcases hi with rfl | rfl
      · skip
        refine J.wpOp rfl rfl ?_
        refine J.isMakeMap ?_; refine J.makeMap rfl rfl rfl ?_; intro base
        refine J.hd ?_
        refine J.on 7 ?_ -- makeMap
        refine J.isMakeMap ?_; refine J.makeMap rfl rfl rfl ?_; intro last
        refine J.hd ?_
        (first | refine J.tk 8 ?_ | (refine J.tkO 8 ?_; first | refine J.giveT (Gives.build (vs := [(0, ptr d 0), (1, gv N), (2, i64 2), (3, i64 gen), (4, rv), (8, .map (some base)), (9, .map (some last))]) (cells := #[ptr d 0, i64 (48 + 32 * N), i64 32, i64 2, i64 gen, rv, .pointer none, i64 0, i64 0, i64 0, i64 0, i64 0, .map (some base), .map (some last), .map none, .map none, .map none, .map none, .map none]) rfl rfl (built76 d N gen rv base last hr1)) rfl rfl ?_))
        refine J.on 9 ?_ -- box
        refine J.isBox ?_; refine J.box (cs := [ptr d 0, i64 (48 + 32 * N), i64 32, i64 2, i64 gen, rv, .pointer none, i64 0, i64 0, i64 0, i64 0, i64 0, .map (some base), .map (some last), .map none, .map none, .map none, .map none, .map none]) rfl rfl rfl rfl rfl ?_; intro st
        refine J.hd ?_
        refine J.tk 10 ?_
        refine J.al ?_
        refine J.thenN ?_
        refine J.pick [11] rfl ?_
        refine J.front 4 rfl rfl ?_
        refine J.front 4 rfl rfl ?_
        refine J.front 3 rfl rfl ?_
        refine J.front 4 rfl rfl ?_
        refine J.front 4 rfl rfl ?_
        refine J.nm ?_
        refine J.first 5 rfl ?_
        exact J.mid (st, base, last, rv, m, Hr) hr (fun _ _ h => h) rfl
      · skip
        refine J.wpOp rfl rfl ?_
        refine J.isMakeMap ?_; refine J.makeMap rfl rfl rfl ?_; intro last
        refine J.hd ?_
        refine J.on 6 ?_ -- makeMap
        refine J.isMakeMap ?_; refine J.makeMap rfl rfl rfl ?_; intro base
        refine J.hd ?_
        (first | refine J.tk 8 ?_ | (refine J.tkO 8 ?_; first | refine J.giveT (Gives.build (vs := [(0, ptr d 0), (1, gv N), (2, i64 2), (3, i64 gen), (4, rv), (8, .map (some base)), (9, .map (some last))]) (cells := #[ptr d 0, i64 (48 + 32 * N), i64 32, i64 2, i64 gen, rv, .pointer none, i64 0, i64 0, i64 0, i64 0, i64 0, .map (some base), .map (some last), .map none, .map none, .map none, .map none, .map none]) rfl rfl (built76 d N gen rv base last hr1)) rfl rfl ?_))
        refine J.on 9 ?_ -- box
        refine J.isBox ?_; refine J.box (cs := [ptr d 0, i64 (48 + 32 * N), i64 32, i64 2, i64 gen, rv, .pointer none, i64 0, i64 0, i64 0, i64 0, i64 0, .map (some base), .map (some last), .map none, .map none, .map none, .map none, .map none]) rfl rfl rfl rfl rfl ?_; intro st
        refine J.hd ?_
        refine J.tk 10 ?_
        refine J.al ?_
        refine J.thenN ?_
        refine J.pick [11] rfl ?_
        refine J.front 4 rfl rfl ?_
        refine J.front 4 rfl rfl ?_
        refine J.front 4 rfl rfl ?_
        refine J.front 4 rfl rfl ?_
        refine J.front 4 rfl rfl ?_
        refine J.nm ?_
        refine J.first 5 rfl ?_
        exact J.mid (st, base, last, rv, m, Hr) hr (fun _ _ h => h) rfl
    · skip
      refine J.wpOp rfl rfl ?_
      refine J.isMakeMap ?_; refine J.makeMap rfl rfl rfl ?_; intro base
      refine J.hd ?_
      -- READY: [(5, 'call', None, 'file.go:61'), (7, 'makeMap', None, 'file.go:61')]
      refine J.each [5, 7] (by kernel_rfl) (by simp) (fun i hi => ?_)
      simp only [List.mem_cons, List.not_mem_nil, or_false] at hi
      rcases hi with rfl | rfl
      · skip
        refine J.wpOp rfl rfl ?_
        refine J.front 2 rfl rfl ?_
        refine J.nm ?_
        refine J.isCallF ?_; refine J.call (H1 := [_]) (Clone sv segs Hg hsv hn) rfl rfl rfl rfl ?_
        rintro rv _ ⟨m, Hr, hr, rfl⟩; refine J.put rfl ?_; refine J.nm ?_
        have hr1 := hr.one
        refine J.hd ?_
        refine J.on 7 ?_ -- makeMap
        refine J.isMakeMap ?_; refine J.makeMap rfl rfl rfl ?_; intro last
        refine J.hd ?_
        (first | refine J.tk 8 ?_ | (refine J.tkO 8 ?_; first | refine J.giveT (Gives.build (vs := [(0, ptr d 0), (1, gv N), (2, i64 2), (3, i64 gen), (4, rv), (8, .map (some base)), (9, .map (some last))]) (cells := #[ptr d 0, i64 (48 + 32 * N), i64 32, i64 2, i64 gen, rv, .pointer none, i64 0, i64 0, i64 0, i64 0, i64 0, .map (some base), .map (some last), .map none, .map none, .map none, .map none, .map none]) rfl rfl (built76 d N gen rv base last hr1)) rfl rfl ?_))
        refine J.on 9 ?_ -- box
        refine J.isBox ?_; refine J.box (cs := [ptr d 0, i64 (48 + 32 * N), i64 32, i64 2, i64 gen, rv, .pointer none, i64 0, i64 0, i64 0, i64 0, i64 0, .map (some base), .map (some last), .map none, .map none, .map none, .map none, .map none]) rfl rfl rfl rfl rfl ?_; intro st
        refine J.hd ?_
        refine J.tk 10 ?_
        refine J.al ?_
        refine J.thenN ?_
        refine J.pick [11] rfl ?_
        refine J.front 3 rfl rfl ?_
        refine J.front 3 rfl rfl ?_
        refine J.front 3 rfl rfl ?_
        refine J.front 4 rfl rfl ?_
        refine J.front 4 rfl rfl ?_
        refine J.nm ?_
        refine J.first 5 rfl ?_
        exact J.mid (st, base, last, rv, m, Hr) hr (fun _ _ h => h) rfl
      · skip
        refine J.wpOp rfl rfl ?_
        refine J.isMakeMap ?_; refine J.makeMap rfl rfl rfl ?_; intro last
        refine J.hd ?_
        refine J.on 5 ?_ -- call
        refine J.front 3 rfl rfl ?_
        refine J.nm ?_
        refine J.isCallF ?_; refine J.call (H1 := [_]) (Clone sv segs Hg hsv hn) rfl rfl rfl rfl ?_
        rintro rv _ ⟨m, Hr, hr, rfl⟩; refine J.put rfl ?_; refine J.nm ?_
        have hr1 := hr.one
        refine J.hd ?_
        (first | refine J.tk 8 ?_ | (refine J.tkO 8 ?_; first | refine J.giveT (Gives.build (vs := [(0, ptr d 0), (1, gv N), (2, i64 2), (3, i64 gen), (4, rv), (8, .map (some base)), (9, .map (some last))]) (cells := #[ptr d 0, i64 (48 + 32 * N), i64 32, i64 2, i64 gen, rv, .pointer none, i64 0, i64 0, i64 0, i64 0, i64 0, .map (some base), .map (some last), .map none, .map none, .map none, .map none, .map none]) rfl rfl (built76 d N gen rv base last hr1)) rfl rfl ?_))
        refine J.on 9 ?_ -- box
        refine J.isBox ?_; refine J.box (cs := [ptr d 0, i64 (48 + 32 * N), i64 32, i64 2, i64 gen, rv, .pointer none, i64 0, i64 0, i64 0, i64 0, i64 0, .map (some base), .map (some last), .map none, .map none, .map none, .map none, .map none]) rfl rfl rfl rfl rfl ?_; intro st
        refine J.hd ?_
        refine J.tk 10 ?_
        refine J.al ?_
        refine J.thenN ?_
        refine J.pick [11] rfl ?_
        refine J.front 2 rfl rfl ?_
        refine J.front 2 rfl rfl ?_
        refine J.front 3 rfl rfl ?_
        refine J.front 4 rfl rfl ?_
        refine J.front 4 rfl rfl ?_
        refine J.nm ?_
        refine J.first 5 rfl ?_
        exact J.mid (st, base, last, rv, m, Hr) hr (fun _ _ h => h) rfl
    · skip
      refine J.wpOp rfl rfl ?_
      refine J.isMakeMap ?_; refine J.makeMap rfl rfl rfl ?_; intro last
      refine J.hd ?_
      -- READY: [(5, 'call', None, 'file.go:61'), (6, 'makeMap', None, 'file.go:61')]
      refine J.each [5, 6] (by kernel_rfl) (by simp) (fun i hi => ?_)
      simp only [List.mem_cons, List.not_mem_nil, or_false] at hi
      rcases hi with rfl | rfl
      · skip
        refine J.wpOp rfl rfl ?_
        refine J.front 2 rfl rfl ?_
        refine J.nm ?_
        refine J.isCallF ?_; refine J.call (H1 := [_]) (Clone sv segs Hg hsv hn) rfl rfl rfl rfl ?_
        rintro rv _ ⟨m, Hr, hr, rfl⟩; refine J.put rfl ?_; refine J.nm ?_
        have hr1 := hr.one
        refine J.hd ?_
        refine J.on 6 ?_ -- makeMap
        refine J.isMakeMap ?_; refine J.makeMap rfl rfl rfl ?_; intro base
        refine J.hd ?_
        (first | refine J.tk 8 ?_ | (refine J.tkO 8 ?_; first | refine J.giveT (Gives.build (vs := [(0, ptr d 0), (1, gv N), (2, i64 2), (3, i64 gen), (4, rv), (8, .map (some base)), (9, .map (some last))]) (cells := #[ptr d 0, i64 (48 + 32 * N), i64 32, i64 2, i64 gen, rv, .pointer none, i64 0, i64 0, i64 0, i64 0, i64 0, .map (some base), .map (some last), .map none, .map none, .map none, .map none, .map none]) rfl rfl (built76 d N gen rv base last hr1)) rfl rfl ?_))
        refine J.on 9 ?_ -- box
        refine J.isBox ?_; refine J.box (cs := [ptr d 0, i64 (48 + 32 * N), i64 32, i64 2, i64 gen, rv, .pointer none, i64 0, i64 0, i64 0, i64 0, i64 0, .map (some base), .map (some last), .map none, .map none, .map none, .map none, .map none]) rfl rfl rfl rfl rfl ?_; intro st
        refine J.hd ?_
        refine J.tk 10 ?_
        refine J.al ?_
        refine J.thenN ?_
        refine J.pick [11] rfl ?_
        refine J.front 3 rfl rfl ?_
        refine J.front 3 rfl rfl ?_
        refine J.front 4 rfl rfl ?_
        refine J.front 4 rfl rfl ?_
        refine J.front 4 rfl rfl ?_
        refine J.nm ?_
        refine J.first 5 rfl ?_
        exact J.mid (st, base, last, rv, m, Hr) hr (fun _ _ h => h) rfl
      · skip
        refine J.wpOp rfl rfl ?_
        refine J.isMakeMap ?_; refine J.makeMap rfl rfl rfl ?_; intro base
        refine J.hd ?_
        refine J.on 5 ?_ -- call
        refine J.front 3 rfl rfl ?_
        refine J.nm ?_
        refine J.isCallF ?_; refine J.call (H1 := [_]) (Clone sv segs Hg hsv hn) rfl rfl rfl rfl ?_
        rintro rv _ ⟨m, Hr, hr, rfl⟩; refine J.put rfl ?_; refine J.nm ?_
        have hr1 := hr.one
        refine J.hd ?_
        (first | refine J.tk 8 ?_ | (refine J.tkO 8 ?_; first | refine J.giveT (Gives.build (vs := [(0, ptr d 0), (1, gv N), (2, i64 2), (3, i64 gen), (4, rv), (8, .map (some base)), (9, .map (some last))]) (cells := #[ptr d 0, i64 (48 + 32 * N), i64 32, i64 2, i64 gen, rv, .pointer none, i64 0, i64 0, i64 0, i64 0, i64 0, .map (some base), .map (some last), .map none, .map none, .map none, .map none, .map none]) rfl rfl (built76 d N gen rv base last hr1)) rfl rfl ?_))
        refine J.on 9 ?_ -- box
        refine J.isBox ?_; refine J.box (cs := [ptr d 0, i64 (48 + 32 * N), i64 32, i64 2, i64 gen, rv, .pointer none, i64 0, i64 0, i64 0, i64 0, i64 0, .map (some base), .map (some last), .map none, .map none, .map none, .map none, .map none]) rfl rfl rfl rfl rfl ?_; intro st
        refine J.hd ?_
        refine J.tk 10 ?_
        refine J.al ?_
        refine J.thenN ?_
        refine J.pick [11] rfl ?_
        refine J.front 2 rfl rfl ?_
        refine J.front 2 rfl rfl ?_
        refine J.front 4 rfl rfl ?_
        refine J.front 4 rfl rfl ?_
        refine J.front 4 rfl rfl ?_
        refine J.nm ?_
        refine J.first 5 rfl ?_
        exact J.mid (st, base, last, rv, m, Hr) hr (fun _ _ h => h) rfl
end Go.Proofs.YF
namespace Go.Proofs.YF
open Go YE
attribute [local irreducible] CW LW OW XW AW PW HW RW AK HK AP HP DX CI LI OI BW RE MW J Gives
set_option maxHeartbeats 1000000
set_option maxRecDepth 20000

theorem ints_at {l : List Value} {k : Nat} {xs : List Int} (h : (l.drop k).take xs.length = xs.map (fun x => i64 x)) (j : Nat) (hj : j < xs.length) : l[k + j]? = some (i64 xs[j]) := by
  have := congrArg (fun l => l[j]?) h
  simp only [List.getElem?_take, hj, if_true, List.getElem?_drop, List.getElem?_map, List.getElem?_eq_getElem hj, Option.map_some] at this
  exact this
theorem Right (d : Nat) (t : Rest) (db S : Nat) (wv : Value) (wr : Int) (N : Nat) (hN : 8 ≤ N ∧ N ≤ 500) (sv : Value) (segs : List Int) (Hg : Heap) (hsv : Ints sv segs Hg) (hn : 8 ≤ segs.length ∧ segs.length ≤ 1000) (hs : ∀ s, s ∈ segs → 0 ≤ s ∧ s < N) :
    Sp Tryz.prog 74 #[ptr d 0, gv N, sv] [[(d, .cells (dcell t db S wv wr) 114 (0, 0))], Hg] (fun v H => v = .bool true ∧ H = [[(d, .cells (dcell t db S wv wr) 114 (0, 0))], Hg]) := by
  refine Sp.intro Tryz.func74 rfl rfl rfl fun w K => ?_
  rcases hsv with ⟨rfl, rfl, rfl⟩ | ⟨sb, sk, cap, l, e, rfl, rfl, h1, h2, h3⟩
  · simp at hn
  refine J.seq ?_; refine J.region ?_; refine J.op rfl ?_
  (refine wo ?_; (try intro b))
  obtain ⟨b4, rfl⟩ : ∃ q, q = b := ⟨b, rfl⟩
  (try refine wk ?_); (repeat (intro b; (try refine wk ?_)))
  refine J.pick [0, 2, 4, 9, 10, 11] rfl ?_
  refine J.loop (α := Nat) (fun j => [(0, ptr d 0), (2, slc sb sk segs.length cap), (4, ptr b4 0), (9, slc sb sk segs.length cap), (10, i64 segs.length), (11, i64 j)]) (fun _ => [[(b4, .cells [i64 (48 + 32 * N), i64 32] 61 (0, 0))], [(d, .cells (dcell t db S wv wr) 114 (0, 0))], [(sb, .cells l e (0, 0))]]) (fun j => j ≤ segs.length) (fun j => segs.length - j) 0 (Nat.zero_le _) (fun _ _ h => h) rfl (fun j hj => ?_)
  by_cases hjn : j < segs.length
  · have hji : (j : Int) < segs.length := by omega
    have hjr : (0 : Int) ≤ j ∧ (j : Int) < segs.length := by omega
    have hl : l[sk + (j : Int).toNat * 1]? = some (i64 segs[j]) := by
      have := ints_at h1 j hjn
      simpa using this
    have hsj := hs _ (List.getElem_mem hjn)
    generalize segs[j] = s at *
    have hst : ¬ start N s = 0 := by unfold start; rw [if_pos hsj]; omega
    (try refine wk ?_); (repeat (intro b; (try refine wk ?_)))
    refine J.op rfl ?_; refine J.isLoad ?_; refine J.give (Gives.load1 2 rfl rfl rfl hl) rfl rfl ?_
    (try refine wk ?_); (repeat (intro b; (try refine wk ?_)))
    (refine J.op rfl ?_; refine J.isCallF ?_; refine J.call (Start N s (by omega) (by omega)) rfl rfl rfl rfl ?_; rintro _ _ ⟨rfl, rfl⟩; refine J.pn ?_)
    (try refine wk ?_); (repeat (intro b; (try refine wk ?_)))
    refine J.pick [0, 2, 4, 9, 10, 11] rfl ?_
    exact J.round (j + 1) hjn (by omega) (fun _ _ h => h) rfl
  · obtain rfl : segs.length = j := by omega
    have h8 : (segs.length : Int) ≥ 8 := by omega
    (try refine wk ?_); (repeat (intro b; (try refine wk ?_)))
    refine J.front 1 rfl rfl ?_
    (refine J.op rfl ?_; refine J.isCallF ?_; refine J.call (H1 := [_]) (Down d t db S wv wr) rfl rfl rfl rfl ?_)
    rintro _ _ ⟨rfl, rfl⟩; refine J.pn ?_
    (try refine wk ?_); (repeat (intro b; (try refine wk ?_)))
    refine J.slot 6 (.bool true) rfl (congrArg Value.bool (decide_eq_true h8)) ?_
    refine J.front 2 rfl rfl ?_
    refine J.front 1 rfl rfl ?_
    refine J.nm ?_
    refine J.first 2 rfl ?_
    refine J.done_ret (res1 rfl rfl) ?_
    exact ⟨rfl, rfl⟩

theorem aset_aset {κ ν : Type} [DecidableEq κ] (m : List (κ × ν)) (k : κ) (a b : ν) : aset (aset m k a) k b = aset m k b := by
  unfold aset
  by_cases h : (m.map (·.1)).contains k = true
  · have hk : (m.map (fun p => if p.1 = k then (p.1, a) else p)).map (·.1) = m.map (·.1) := by
      rw [List.map_map]; apply List.map_congr_left; intro p _; simp only [Function.comp]; split <;> rfl
    rw [if_pos h, hk, if_pos h, if_pos h, List.map_map]
    apply List.map_congr_left
    intro p _
    simp only [Function.comp]
    by_cases e : p.1 = k <;> simp [e]
  · have hm : ∀ p, p ∈ m → p.1 ≠ k := fun p hp e => h (List.contains_iff_mem.2 (List.mem_map.2 ⟨p, hp, e⟩))
    rw [if_neg h]
    have h2 : ((m ++ [(k, a)]).map (·.1)).contains k = true := List.contains_iff_mem.2 (by simp)
    rw [if_pos h2, if_neg h, List.map_append]
    congr 1
    · conv => rhs; rw [← List.map_id m]
      apply List.map_congr_left
      intro p hp
      simp [hm p hp]
    · simp
abbrev ki (n : Int) : Value := i64 n
theorem keyI : KeyLaw Tryz.prog 3 ki := keyLaw_int (d := .i64) Tryz.und3 .i64
def Nd.bare (x : Nd) : Nd := { x with ps := List.replicate 14 0 }
def nd0 : Nd := ⟨0, 0, 0, 0, 0, List.replicate 14 0⟩
theorem SetNode (bst nb ub : Nat) (st : Sto) (hvn : st.vn = .map (some nb)) (hvu : st.vu = .map (some ub)) (x : Nd) (hp : x.ps.length = 14) (hok : x.bare.okB = true)
    (nl : List (Int × Nd)) (ne : List MapEntry) (nc : Nat) (hnm : MapOK ki Nd.v nl ne nc) (ul : List (Int × Bool)) (ue : List MapEntry) (uc : Nat) (hum : MapOK ki Value.bool ul ue uc) :
    Sp Tryz.prog 18 #[ptr bst 0, x.v] [[(bst, .cells st.cells 92 (0, 0))], [(nb, .map ne nc)], [(ub, .map ue uc)]]
      (fun v H => ∃ ne' nc' ue' uc', v = .bool true ∧ MapOK ki Nd.v (aset nl x.num x.bare) ne' nc' ∧ MapOK ki Value.bool (aset ul x.num true) ue' uc' ∧ H = [[(bst, .cells st.cells 92 (0, 0))], [(nb, .map ne' nc')], [(ub, .map ue' uc')]]) := by
  refine Sp.intro Tryz.func18 rfl rfl rfl fun w K => ?_
  obtain ⟨d, N, gen, sv, lg, num, m0, m1, m2, m3, base, last, vs, vt, vn, vu, vg⟩ := st
  simp only at hvn hvu
  subst hvn hvu
  refine J.seq ?_; refine J.region ?_; refine J.op rfl ?_
  (refine wo ?_; (try intro b))
  obtain ⟨b3, rfl⟩ : ∃ q, q = b := ⟨b, rfl⟩
  (try refine wk ?_); (repeat (intro b; (try refine wk ?_)))
  have hbp : x.bare.ps.length = 14 := by simp [Nd.bare]
  have hspl : splice x.cells 5 (ints (List.replicate 14 0)) = x.bare.cells := by
    simp only [splice, Nd.cells, Nd.bare]
    have h1 : (ints x.ps).length = 14 := by simp [hp]
    have h2 : ([i64 x.num, i64 x.kind, i64 x.links, i64 x.size, i64 x.time] ++ ints x.ps).drop (5 + (ints (List.replicate 14 0)).length) = [] := by
      apply List.drop_eq_nil_of_le; simp [hp]
    rw [h2]
    simp
  have hl19 : (x.bare.cells.drop 0).take 19 = ints x.bare.list := by
    rw [List.drop_zero, List.take_of_length_le (by simp [hbp])]; simp [Nd.cells, Nd.list, ints]
  have hbl : Nat.ble (0 + 19) x.bare.cells.length = true := by simp [Nd.cells, hbp]
  have hcl : ints x.bare.list = x.bare.cells := by simp [Nd.cells, Nd.list, ints]
  rw [hcl] at hl19
  refine J.op rfl ?_; refine J.isBuild ?_; refine J.give (Gives.build (vs := []) (cells := (ints (List.replicate 14 0)).toArray) rfl rfl (by kernel_rfl)) rfl rfl ?_
  (try refine wk ?_); (repeat (intro b; (try refine wk ?_)))
  refine J.op rfl ?_; refine J.isStore ?_; refine J.storeA (m := 14) (vs := ints (List.replicate 14 0)) 0 rfl rfl rfl (by simp) (fun v hv => by obtain ⟨q, _, rfl⟩ := List.mem_map.1 hv; rfl) rfl (by simp [Nd.cells, hp]) (by simp [noFz]) rfl (H' := [[(b3, .cells x.bare.cells 31 (0, 0))], [(bst, .cells ({ d := d, N := N, gen := gen, sv := sv, lg := lg, num := num, m0 := m0, m1 := m1, m2 := m2, m3 := m3, base := base, last := last, vs := vs, vt := vt, vn := .map (some nb), vu := .map (some ub), vg := vg } : Sto).cells 92 (0, 0))], [(nb, .map ne nc)], [(ub, .map ue uc)]]) (by show [[(b3, HO.cells (splice x.cells 5 (ints (List.replicate 14 0))) 31 (0, 0))], _, _, _] = _; rw [hspl]) ?_
  (try refine wk ?_); (repeat (intro b; (try refine wk ?_)))
  refine J.slot 7 x.bare.v rfl rfl ?_
  (refine J.op rfl ?_; refine J.isCallF ?_; refine J.call (NodeCheck x.bare hbp) rfl rfl rfl rfl ?_; rintro _ _ ⟨rfl, rfl⟩; refine J.pn ?_)
  refine J.slot 8 (.bool true) rfl (congrArg Value.bool hok) ?_
  (try refine wk ?_); (repeat (intro b; (try refine wk ?_)))
  refine J.any Tryz.mixed [[(bst, .cells ({ d := d, N := N, gen := gen, sv := sv, lg := lg, num := num, m0 := m0, m1 := m1, m2 := m2, m3 := m3, base := base, last := last, vs := vs, vt := vt, vn := .map (some nb), vu := .map (some ub), vg := vg } : Sto).cells 92 (0, 0))], [(b3, .cells x.bare.cells 31 (0, 0))]] ?_
  refine J.tk 0 ?_
  refine J.tk 1 ?_
  refine J.tk 2 ?_
  refine J.tk 3 ?_
  refine J.tk 4 ?_
  refine J.tk 5 ?_
  refine J.tk 6 ?_
  refine J.tk 7 ?_
  refine J.tk 8 ?_
  refine J.tk 9 ?_
  refine J.tk 10 ?_
  refine J.tk 11 ?_
  refine J.tk 12 ?_
  refine J.tk 13 ?_
  refine J.tk 14 ?_
  refine J.on 15 ?_ -- mapEntry
  refine J.slot 24 x.bare.v rfl rfl ?_
  refine J.isMapEntry ?_; refine J.mapEntry (enc := ki) (encV := Nd.v) (m := nl) (k := x.num) 2 nd0 rfl keyI hnm rfl rfl rfl rfl rfl rfl (fun _ _ => rfl) ?_
  intro ne1 nc1 st1 hn1 hs1
  refine J.nm ?_
  refine J.hd ?_
  refine J.tk 16 ?_
  refine J.on 17 ?_ -- entryStore
  refine J.isEntryStore ?_; refine J.entryStore (enc := ki) (encV := Nd.v) (k := x.num) (v := x.bare) 2 hn1 hs1 rfl rfl rfl rfl rfl rfl (fun _ _ => rfl) ?_
  intro ne2 hn2
  rw [aset_aset] at hn2
  refine J.nm ?_
  refine J.hd ?_
  refine J.on 18 ?_ -- mapEntry
  refine J.isMapEntry ?_; refine J.mapEntry (enc := ki) (encV := Value.bool) (m := ul) (k := x.num) 3 false rfl keyI hum rfl rfl rfl rfl rfl rfl (fun _ _ => rfl) ?_
  intro ue1 uc1 st2 hu1 hs2
  refine J.nm ?_
  refine J.hd ?_
  refine J.tk 19 ?_
  refine J.on 20 ?_ -- entryStore
  refine J.isEntryStore ?_; refine J.entryStore (enc := ki) (encV := Value.bool) (k := x.num) (v := true) 3 hu1 hs2 rfl rfl rfl rfl rfl rfl (fun _ _ => rfl) ?_
  intro ue2 hu2
  rw [aset_aset] at hu2
  refine J.nm ?_
  refine J.hd ?_
  refine J.al ?_
  (try refine wk ?_); (repeat (intro b; (try refine wk ?_)))
  refine J.drop 0 ?_
  refine J.done_ret (res1 rfl rfl) ?_
  exact ⟨ne2, nc1, ue2, uc1, rfl, hn2, hu2, rfl⟩
theorem SetNodeBad (bst : Nat) (st : Sto) (x : Nd) (hp : x.ps.length = 14) (hok : x.bare.okB = false) :
    Sp Tryz.prog 18 #[ptr bst 0, x.v] [[(bst, .cells st.cells 92 (0, 0))]] (fun v H => v = .bool false ∧ H = [[(bst, .cells st.cells 92 (0, 0))]]) := by
  refine Sp.intro Tryz.func18 rfl rfl rfl fun w K => ?_
  refine J.seq ?_; refine J.region ?_; refine J.op rfl ?_
  (refine wo ?_; (try intro b))
  obtain ⟨b3, rfl⟩ : ∃ q, q = b := ⟨b, rfl⟩
  (try refine wk ?_); (repeat (intro b; (try refine wk ?_)))
  have hbp : x.bare.ps.length = 14 := by simp [Nd.bare]
  have hspl : splice x.cells 5 (ints (List.replicate 14 0)) = x.bare.cells := by
    simp only [splice, Nd.cells, Nd.bare]
    have h1 : (ints x.ps).length = 14 := by simp [hp]
    have h2 : ([i64 x.num, i64 x.kind, i64 x.links, i64 x.size, i64 x.time] ++ ints x.ps).drop (5 + (ints (List.replicate 14 0)).length) = [] := by
      apply List.drop_eq_nil_of_le; simp [hp]
    rw [h2]
    simp
  refine J.op rfl ?_; refine J.isBuild ?_; refine J.give (Gives.build (vs := []) (cells := (ints (List.replicate 14 0)).toArray) rfl rfl (by kernel_rfl)) rfl rfl ?_
  (try refine wk ?_); (repeat (intro b; (try refine wk ?_)))
  refine J.op rfl ?_; refine J.isStore ?_; refine J.storeA (m := 14) (vs := ints (List.replicate 14 0)) 0 rfl rfl rfl (by simp) (fun v hv => by obtain ⟨q, _, rfl⟩ := List.mem_map.1 hv; rfl) rfl (by simp [Nd.cells, hp]) (by simp [noFz]) rfl (H' := [[(b3, .cells x.bare.cells 31 (0, 0))], [(bst, .cells st.cells 92 (0, 0))]]) (by show [[(b3, HO.cells (splice x.cells 5 (ints (List.replicate 14 0))) 31 (0, 0))], _] = _; rw [hspl]) ?_
  (try refine wk ?_); (repeat (intro b; (try refine wk ?_)))
  refine J.slot 7 x.bare.v rfl rfl ?_
  (refine J.op rfl ?_; refine J.isCallF ?_; refine J.call (NodeCheck x.bare hbp) rfl rfl rfl rfl ?_; rintro _ _ ⟨rfl, rfl⟩; refine J.pn ?_)
  refine J.slot 8 (.bool false) rfl (congrArg Value.bool hok) ?_
  (try refine wk ?_); (repeat (intro b; (try refine wk ?_)))
  refine J.drop 0 ?_
  refine J.done_ret (res1 rfl rfl) ?_
  exact ⟨rfl, rfl⟩
end Go.Proofs.YF
namespace Go.Proofs.YF
open Go YE
attribute [local irreducible] CW LW OW XW AW PW HW RW AK HK AP HP DX CI LI OI BW RE MW J Gives
set_option maxHeartbeats 1000000
set_option maxRecDepth 20000

abbrev bareC (x : Nd) : List Value := [i64 x.num, i64 x.kind, i64 x.links, i64 x.size, i64 x.time, i64 0, i64 0, i64 0, i64 0, i64 0, i64 0, i64 0, i64 0, i64 0, i64 0, i64 0, i64 0, i64 0, i64 0]
abbrev bareV (x : Nd) : Value := .agg #[i64 x.num, i64 x.kind, i64 x.links, i64 x.size, i64 x.time, i64 0, i64 0, i64 0, i64 0, i64 0, i64 0, i64 0, i64 0, i64 0, i64 0, i64 0, i64 0, i64 0, i64 0]
abbrev zeroV : Value := .agg #[i64 0, i64 0, i64 0, i64 0, i64 0, i64 0, i64 0, i64 0, i64 0, i64 0, i64 0, i64 0, i64 0, i64 0, i64 0, i64 0, i64 0, i64 0, i64 0]
abbrev kp (b : Nat) : Value := ptr b 0
/-- A node as it stands: its cells, its sector, its maps. -/
abbrev stcells (x : Nd) (sec : Int) (bm im : Nat) : List Value := [i64 x.num, i64 x.kind, i64 x.links, i64 x.size, i64 x.time, i64 0, i64 0, i64 0, i64 0, i64 0, i64 0, i64 0, i64 0, i64 0, i64 0, i64 0, i64 0, i64 0, i64 0, i64 sec, .map (some bm), .map (some im)]
theorem resA1 {P : Program} {c : Cx} {S : Slots} {H : Hs} {fn : Func} {t u T m b : Nat} {l r : List Value} {e : TypeId} {z : Nat × Nat} {v : Value} [h : Agg P T m] (i : Nat) (hr : fn.results = #[.cell t T, .tmp u]) (hs : S.get t = some (ptr b 0)) (hp : H[i]? = some [(b, .cells l e z)]) (hl : Nat.ble (0 + m) l.length = true) (hv : (l.drop 0).take m = r) (hs' : S.get u = some v) :
    ∀ a w, Fr a c.n S → St c.w0 c.K0 w H.flatten → (results fn a.tmps).run P w = .ok (.tuple #[.agg r.toArray, v]) w := fun a w hf hst => by
  subst hv
  have h1 := hf.get t _ hs
  have h2 := hf.get u _ hs'
  simp only [Array.getD_eq_getD_getElem?] at h1 h2
  have hc := loadCells_run (P := P) hst.has.1 (mem_one hp) (k := 0) (m := m) (by simpa using hl)
  unfold results; simp [hr, h1, h2, asAddr, loadVar, isAgg_agg, size_run h.size, hc]
theorem NodeNow (bst nb : Nat) (st : Sto) (hvn : st.vn = .map (some nb)) (n : Int) (x : Nd) (nl : List (Int × Nd)) (ne : List MapEntry) (nc : Nat) (hnm : MapOK ki Nd.v nl ne nc) (hx : aget nl n = some x.bare) :
    Sp Tryz.prog 34 #[ptr bst 0, i64 n] [[(bst, .cells st.cells 92 (0, 0))], [(nb, .map ne nc)]] (fun v H => v = .tuple #[x.bare.v, .bool true] ∧ H = [[(bst, .cells st.cells 92 (0, 0))], [(nb, .map ne nc)]]) := by
  refine Sp.intro Tryz.func34 rfl rfl rfl fun w K => ?_
  obtain ⟨d, N, gen, sv, lg, num, m0, m1, m2, m3, base, last, vs, vt, vn, vu, vg⟩ := st
  simp only at hvn
  subst hvn
  (try refine wk ?_); (repeat (intro b; (try refine wk ?_)))
  refine J.op rfl ?_; refine J.isLookup ?_; refine J.give (Gives.lookOk (enc := ki) (encV := Nd.v) 2 keyI hnm rfl rfl rfl rfl) rfl rfl ?_
  refine J.slot 16 (.tuple #[bareV x, .bool true]) rfl (by rw [hx]; rfl) ?_
  (try refine wk ?_); (repeat (intro b; (try refine wk ?_)))
  refine J.front 0 rfl rfl ?_
  refine J.front 1 rfl rfl ?_
  refine J.front 3 rfl rfl ?_
  refine J.front 3 rfl rfl ?_
  refine J.nm ?_
  exact J.done_first 2 (resA1 2 rfl rfl rfl rfl rfl rfl) rfl ⟨rfl, rfl⟩
theorem NodeBase (bst nb gb p : Nat) (st : Sto) (hvn : st.vn = .map (some nb)) (hvg : st.vg = .map (some gb)) (n : Int) (x : Nd) (sec : Int) (bm im : Nat) (nl : List (Int × Nd)) (ne : List MapEntry) (nc : Nat) (hnm : MapOK ki Nd.v nl ne nc) (hx : aget nl n = none)
    (bl : List (Int × Nat)) (be : List MapEntry) (bc : Nat) (hbm : MapOK ki kp bl be bc) (hb : aget bl n = some p) (gl : List (Int × Bool)) (ge : List MapEntry) (gc : Nat) (hgm : MapOK ki Value.bool gl ge gc) (hg : aget gl n = none) :
    Sp Tryz.prog 34 #[ptr bst 0, i64 n] [[(bst, .cells st.cells 92 (0, 0))], [(nb, .map ne nc)], [(st.base, .map be bc)], [(gb, .map ge gc)], [(p, .cells (stcells x sec bm im) 108 (0, 0))]]
      (fun v H => v = .tuple #[x.bare.v, .bool true] ∧ H = [[(bst, .cells st.cells 92 (0, 0))], [(nb, .map ne nc)], [(st.base, .map be bc)], [(gb, .map ge gc)], [(p, .cells (stcells x sec bm im) 108 (0, 0))]]) := by
  refine Sp.intro Tryz.func34 rfl rfl rfl fun w K => ?_
  obtain ⟨d, N, gen, sv, lg, num, m0, m1, m2, m3, base, last, vs, vt, vn, vu, vg⟩ := st
  simp only at hvn hvg
  subst hvn hvg
  (try refine wk ?_); (repeat (intro b; (try refine wk ?_)))
  refine J.op rfl ?_; refine J.isLookup ?_; refine J.give (Gives.lookOk (enc := ki) (encV := Nd.v) 2 keyI hnm rfl rfl rfl rfl) rfl rfl ?_
  refine J.slot 16 (.tuple #[zeroV, .bool false]) rfl (by rw [hx]; rfl) ?_
  (try refine wk ?_); (repeat (intro b; (try refine wk ?_)))
  refine J.op rfl ?_; refine J.isLookup ?_; refine J.give (Gives.look (enc := ki) (encV := kp) 4 keyI hbm rfl rfl rfl rfl) rfl rfl ?_
  refine J.slot 26 (ptr p 0) rfl (by rw [hb]; rfl) ?_
  (try refine wk ?_); (repeat (intro b; (try refine wk ?_)))
  refine J.want rfl rfl rfl ?_
  refine J.isLookup ?_; refine J.give (Gives.look (enc := ki) (encV := Value.bool) 5 keyI hgm rfl rfl rfl rfl) rfl rfl ?_
  refine J.slot 36 (.bool false) rfl (by rw [hg]; rfl) ?_
  (try refine wk ?_); (repeat (intro b; (try refine wk ?_)))
  refine J.front 0 rfl rfl ?_
  refine J.front 1 rfl rfl ?_
  refine J.front 6 rfl rfl ?_
  refine J.front 6 rfl rfl ?_
  refine J.front 6 rfl rfl ?_
  refine J.front 6 rfl rfl ?_
  refine J.front 6 rfl rfl ?_
  refine J.nm ?_
  exact J.done_first 5 (resA1 5 rfl rfl rfl rfl rfl rfl) rfl ⟨rfl, rfl⟩
theorem NodeNone (bst nb : Nat) (st : Sto) (hvn : st.vn = .map (some nb)) (n : Int) (nl : List (Int × Nd)) (ne : List MapEntry) (nc : Nat) (hnm : MapOK ki Nd.v nl ne nc) (hx : aget nl n = none)
    (bl : List (Int × Nat)) (be : List MapEntry) (bc : Nat) (hbm : MapOK ki kp bl be bc) (hb : aget bl n = none) :
    Sp Tryz.prog 34 #[ptr bst 0, i64 n] [[(bst, .cells st.cells 92 (0, 0))], [(nb, .map ne nc)], [(st.base, .map be bc)]]
      (fun v H => v = .tuple #[nd0.v, .bool false] ∧ H = [[(bst, .cells st.cells 92 (0, 0))], [(nb, .map ne nc)], [(st.base, .map be bc)]]) := by
  refine Sp.intro Tryz.func34 rfl rfl rfl fun w K => ?_
  obtain ⟨d, N, gen, sv, lg, num, m0, m1, m2, m3, base, last, vs, vt, vn, vu, vg⟩ := st
  simp only at hvn
  subst hvn
  (try refine wk ?_); (repeat (intro b; (try refine wk ?_)))
  refine J.op rfl ?_; refine J.isLookup ?_; refine J.give (Gives.lookOk (enc := ki) (encV := Nd.v) 2 keyI hnm rfl rfl rfl rfl) rfl rfl ?_
  refine J.slot 16 (.tuple #[zeroV, .bool false]) rfl (by rw [hx]; rfl) ?_
  (try refine wk ?_); (repeat (intro b; (try refine wk ?_)))
  refine J.op rfl ?_; refine J.isLookup ?_; refine J.give (Gives.look (enc := ki) (encV := kp) 4 keyI hbm rfl rfl rfl rfl) rfl rfl ?_
  refine J.slot 26 (.pointer none) rfl (by rw [hb]; rfl) ?_
  (try refine wk ?_); (repeat (intro b; (try refine wk ?_)))
  refine J.op rfl ?_; refine J.isBuild ?_; refine J.give (Gives.build (vs := []) (cells := #[i64 0, i64 0, i64 0, i64 0, i64 0, i64 0, i64 0, i64 0, i64 0, i64 0, i64 0, i64 0, i64 0, i64 0, i64 0, i64 0, i64 0, i64 0, i64 0]) rfl rfl (by kernel_rfl)) rfl rfl ?_
  (try refine wk ?_); (repeat (intro b; (try refine wk ?_)))
  refine J.front 0 rfl rfl ?_
  refine J.front 1 rfl rfl ?_
  refine J.front 4 rfl rfl ?_
  refine J.front 4 rfl rfl ?_
  refine J.front 4 rfl rfl ?_
  refine J.nm ?_
  exact J.done_first 3 (resA1 3 rfl rfl rfl rfl rfl rfl) rfl ⟨rfl, rfl⟩
end Go.Proofs.YF
namespace Go.Proofs.YF
open Go YE
attribute [local irreducible] CW LW OW XW AW PW HW RW AK HK AP HP DX CI LI OI BW RE MW J Gives
set_option maxHeartbeats 1000000
set_option maxRecDepth 20000

theorem Gives.indexStrK {P : Program} {n : Nat} {S : Slots} {H : Hs} {o : Oper} {T : TypeId} {x y : Operand} {s : ByteArray} {kk : IntKind} {i : Int} (ho : o.op = .index T x y) (hu : P.underlying T = some .string) (hx : ev S x = some (.string s)) (hy : ev S y = some (.int kk i)) {u : UInt8} (hi : 0 ≤ i) (hs : s[i.toNat]? = some u) :
    Gives P n o (.int .u8 u.toNat) S H := by
  unfold Gives; intro a w hf hh
  unfold execOp; rw [ho]; simp only [hf.ev hx, hf.ev hy]; simp [Instr.index, asIntOf, und_run hu, hi, hs]
theorem Len64s (k : Nat) (hk : k ≤ 1) : Sp Tryz.prog 180 #[.int .u64 k] [] (Is (i64 k)) := by
  refine Sp.intro Tryz.func180 rfl rfl rfl fun w K => ?_
  have h1 : ¬ (k : Int) ≥ 4294967296 := by omega
  have h2 : ¬ (k : Int) ≥ 65536 := by omega
  have h3 : ¬ (k : Int) ≥ 256 := by omega
  have hw : IntKind.u8.wrap (k : Int) = k := by
    match k, hk with
    | 0, _ => rfl
    | 1, _ => rfl
  (try refine wk ?_); (repeat (intro b; (try refine wk ?_)))
  refine J.slot 21 (.int .u8 k) rfl (congrArg (Value.int .u8) hw) ?_
  match k, hk with
  | 0, _ =>
    refine J.op rfl ?_; refine J.isIndex ?_; refine J.give (Gives.indexStrK (u := 0) rfl StrT.und rfl rfl (by omega) rfl) rfl rfl ?_
    (try refine wk ?_); (repeat (intro b; (try refine wk ?_)))
    refine J.slot 23 (i64 0) rfl rfl ?_
    (try refine wk ?_); (repeat (intro b; (try refine wk ?_)))
    refine J.clear ?_; refine J.done_ret (res1 rfl rfl) ?_; refine ⟨?_, rfl⟩
    rfl
  | 1, _ =>
    refine J.op rfl ?_; refine J.isIndex ?_; refine J.give (Gives.indexStrK (u := 1) rfl StrT.und rfl rfl (by omega) rfl) rfl rfl ?_
    (try refine wk ?_); (repeat (intro b; (try refine wk ?_)))
    refine J.slot 23 (i64 1) rfl rfl ?_
    (try refine wk ?_); (repeat (intro b; (try refine wk ?_)))
    refine J.clear ?_; refine J.done_ret (res1 rfl rfl) ?_; refine ⟨?_, rfl⟩
    rfl
theorem LenS (k : Nat) (hk : k ≤ 1) : Sp Tryz.prog 125 #[.int .u64 k] [] (Is (i64 k)) := by
  refine Sp.intro Tryz.func125 rfl rfl rfl fun w K => ?_
  (try refine wk ?_); (repeat (intro b; (try refine wk ?_)))
  (refine J.op rfl ?_; refine J.isCallF ?_; refine J.call (Len64s k hk) rfl rfl rfl rfl ?_; rintro _ _ ⟨rfl, rfl⟩; refine J.pn ?_)
  (try refine wk ?_); (repeat (intro b; (try refine wk ?_)))
  refine J.clear ?_; refine J.done_ret (res1 rfl rfl) ?_; refine ⟨?_, rfl⟩
  rfl
theorem InsS (v : Value) (k : Nat) (hk : k ≤ 1) : Sp Tryz.prog 170 #[v, i64 0, i64 k] [] (fun _ H => H = []) := by
  refine Sp.intro Tryz.func170 rfl rfl rfl fun w K => ?_
  have h1 : ¬ (0 : Int) + 1 < k := by omega
  (try refine wk ?_); (repeat (intro b; (try refine wk ?_)))
  refine J.pick [0, 1, 2, 6] rfl ?_
  refine J.loop (α := Unit) (fun _ => _) (fun _ => _) (fun _ => True) (fun _ => 0) () trivial (fun _ _ h => h) rfl (fun _ _ => ?_)
  (try refine wk ?_); (repeat (intro b; (try refine wk ?_)))
  refine J.done (fun a w _ _ => res0 rfl a.tmps w) ?_
  rfl
theorem PdqS (v : Value) (k : Nat) (hk : k ≤ 1) (z : Int) : Sp Tryz.prog 124 #[v, i64 0, i64 k, i64 z] [] (fun _ H => H = []) := by
  refine Sp.intro Tryz.func124 rfl rfl rfl fun w K => ?_
  have h1 : (k : Int) - 0 ≤ 12 := by omega
  (try refine wk ?_); (repeat (intro b; (try refine wk ?_)))
  refine J.pick [0, 1, 2, 3, 8, 9] rfl ?_
  refine J.loop (α := Unit) (fun _ => _) (fun _ => _) (fun _ => True) (fun _ => 0) () trivial (fun _ _ h => h) rfl (fun _ _ => ?_)
  (try refine wk ?_); (repeat (intro b; (try refine wk ?_)))
  (refine J.op rfl ?_; refine J.isCallF ?_; refine J.call (H1 := []) (InsS v k hk) rfl rfl rfl rfl ?_)
  rintro _ _ rfl; refine J.pn ?_
  (try refine wk ?_); (repeat (intro b; (try refine wk ?_)))
  refine J.done_ret (fun a w _ _ => res0 rfl a.tmps w) ?_
  rfl
theorem SortS (p : Option Addr) (k c : Nat) (hk : k ≤ 1) : Sp Tryz.prog 72 #[.slice p k c] [] (fun _ H => H = []) := by
  refine Sp.intro Tryz.func72 rfl rfl rfl fun w K => ?_
  (try refine wk ?_); (repeat (intro b; (try refine wk ?_)))
  refine J.slot 8 (.int .u64 k) rfl (congrArg (Value.int .u64) (u64_wrap k (by omega))) ?_
  (refine J.op rfl ?_; refine J.isCallF ?_; refine J.call (LenS k hk) rfl rfl rfl rfl ?_; rintro _ _ ⟨rfl, rfl⟩; refine J.pn ?_)
  (refine J.op rfl ?_; refine J.isCallF ?_; refine J.call (H1 := []) (PdqS _ k hk k) rfl rfl rfl rfl ?_)
  rintro _ _ rfl; refine J.pn ?_
  (try refine wk ?_); (repeat (intro b; (try refine wk ?_)))
  refine J.done (fun a w _ _ => res0 rfl a.tmps w) ?_
  rfl
theorem InsC (v f : Value) : Sp Tryz.prog 244 #[v, i64 0, i64 0, f] [] (fun _ H => H = []) := by
  refine Sp.intro Tryz.func244 rfl rfl rfl fun w K => ?_
  have h1 : ¬ (0 : Int) + 1 < 0 := by omega
  (try refine wk ?_); (repeat (intro b; (try refine wk ?_)))
  refine J.pick [0, 1, 2, 3, 8] rfl ?_
  refine J.loop (α := Unit) (fun _ => _) (fun _ => _) (fun _ => True) (fun _ => 0) () trivial (fun _ _ h => h) rfl (fun _ _ => ?_)
  (try refine wk ?_); (repeat (intro b; (try refine wk ?_)))
  refine J.done (fun a w _ _ => res0 rfl a.tmps w) ?_
  rfl
theorem PdqC (v f : Value) (z : Int) : Sp Tryz.prog 238 #[v, i64 0, i64 0, i64 z, f] [] (fun _ H => H = []) := by
  refine Sp.intro Tryz.func238 rfl rfl rfl fun w K => ?_
  have h1 : (0 : Int) - 0 ≤ 12 := by omega
  (try refine wk ?_); (repeat (intro b; (try refine wk ?_)))
  refine J.pick [0, 1, 2, 3, 4, 10, 11] rfl ?_
  refine J.loop (α := Unit) (fun _ => _) (fun _ => _) (fun _ => True) (fun _ => 0) () trivial (fun _ _ h => h) rfl (fun _ _ => ?_)
  (try refine wk ?_); (repeat (intro b; (try refine wk ?_)))
  (refine J.op rfl ?_; refine J.isCallF ?_; refine J.call (H1 := []) (InsC v f) rfl rfl rfl rfl ?_)
  rintro _ _ rfl; refine J.pn ?_
  (try refine wk ?_); (repeat (intro b; (try refine wk ?_)))
  refine J.done_ret (fun a w _ _ => res0 rfl a.tmps w) ?_
  rfl
theorem SortC (p : Option Addr) (c : Nat) (f : Value) : Sp Tryz.prog 206 #[.slice p 0 c, f] [] (fun _ H => H = []) := by
  refine Sp.intro Tryz.func206 rfl rfl rfl fun w K => ?_
  (try refine wk ?_); (repeat (intro b; (try refine wk ?_)))
  refine J.slot 10 (.int .u64 (0 : Nat)) rfl rfl ?_
  (try refine wk ?_); (repeat (intro b; (try refine wk ?_)))
  (refine J.op rfl ?_; refine J.isCallF ?_; refine J.call (LenS 0 (by omega)) rfl rfl rfl rfl ?_; rintro _ _ ⟨rfl, rfl⟩; refine J.pn ?_)
  (try refine wk ?_); (repeat (intro b; (try refine wk ?_)))
  (refine J.op rfl ?_; refine J.isCallF ?_; refine J.call (H1 := []) (PdqC _ f 0) rfl rfl rfl rfl ?_)
  rintro _ _ rfl; refine J.pn ?_
  (try refine wk ?_); (repeat (intro b; (try refine wk ?_)))
  refine J.done (fun a w _ _ => res0 rfl a.tmps w) ?_
  rfl
end Go.Proofs.YF
namespace Go.Proofs.YF
open Go YE
attribute [local irreducible] CW LW OW XW AW PW HW RW AK HK AP HP DX CI LI OI BW RE MW J Gives
set_option maxHeartbeats 1000000
set_option maxRecDepth 20000

theorem res1M {P : Program} {c : Cx} {S : Slots} {fn : Func} {t : Nat} {v : Value} (h : fn.results = #[.tmp t]) (hs : S.get t = some v) : ∀ a w, Fr a c.n S → (results fn a.tmps).run P w = .ok v w := fun a w hf => by
  rw [results_tmp h]; exact congrArg (fun x => Result.ok x w) (hf.get t v hs)
theorem Keys83 (mb : Nat) : Sp Tryz.prog 156 #[.map (some mb)] [] (fun v H => ∃ bb, v = .func (.func 207) #[] #[ptr bb 0] ∧ H = [[(bb, .cells [.map (some mb)] 83 (0, 0))]]) := by
  refine Sp.intro Tryz.func156 rfl rfl rfl fun w K => ?_
  (try refine wk ?_); (repeat (intro b; (try refine wk ?_)))
  refine J.done_ret (res1 rfl rfl) ?_
  exact ⟨b, rfl, rfl⟩
theorem Keys84 (mb : Nat) : Sp Tryz.prog 158 #[.map (some mb)] [] (fun v H => ∃ bb, v = .func (.func 208) #[] #[ptr bb 0] ∧ H = [[(bb, .cells [.map (some mb)] 84 (0, 0))]]) := by
  refine Sp.intro Tryz.func158 rfl rfl rfl fun w K => ?_
  (try refine wk ?_); (repeat (intro b; (try refine wk ?_)))
  refine J.done_ret (res1 rfl rfl) ?_
  exact ⟨b, rfl, rfl⟩
theorem Keys45 (mb : Nat) : Sp Tryz.prog 117 #[.map (some mb)] [] (fun v H => ∃ bb, v = .func (.func 162) #[] #[ptr bb 0] ∧ H = [[(bb, .cells [.map (some mb)] 45 (0, 0))]]) := by
  refine Sp.intro Tryz.func117 rfl rfl rfl fun w K => ?_
  (try refine wk ?_); (repeat (intro b; (try refine wk ?_)))
  refine J.done_ret (res1 rfl rfl) ?_
  exact ⟨b, rfl, rfl⟩
abbrev k2 (p : Int × Int) : List Value := [two .i64 p]
theorem Seq83 (bb mb clk : Nat) : SeqSp Tryz.prog 207 #[ptr bb 0] [[(bb, .cells [.map (some mb)] 83 (0, 0))], [(mb, .map [] clk)]] k2 (fun _ => False) (fun xs => xs = []) := by
  intro l I _ H0 h0
  refine Sp.intro Tryz.func207 rfl rfl rfl fun w K => ?_
  refine J.perm (H' := [[(bb, .cells [.map (some mb)] 83 (0, 0))], [(mb, .map [] clk)]] ++ H0) List.perm_append_comm ?_
  (try refine wk ?_); (repeat (intro b; (try refine wk ?_)))
  refine J.op rfl ?_; refine J.isRange ?_; refine J.range 1 rfl rfl rfl rfl rfl ?_; intro r
  (try refine wk ?_); (repeat (intro b; (try refine wk ?_)))
  refine J.pick [5] rfl ?_
  refine J.loop (α := Unit) (fun _ => _) (fun _ => _) (fun _ => True) (fun _ => 0) () trivial (fun _ _ h => h) rfl (fun _ _ => ?_)
  (try refine wk ?_); (repeat (intro b; (try refine wk ?_)))
  refine J.op rfl ?_; refine J.isNext ?_; refine J.next (dn := []) (es := []) (i := 2) (j := 0) (b := mb) (clk := clk) (by simp) rfl rfl rfl rfl rfl rfl (fun _ => rfl) (fun _ => ?_) (fun e he => by cases he)
  (try refine wk ?_); (repeat (intro b; (try refine wk ?_)))
  refine J.drop 0 ?_
  refine J.perm (H' := H0 ++ [[(bb, .cells [.map (some mb)] 83 (0, 0))], [(mb, .map [] clk)]]) List.perm_append_comm ?_
  refine J.done (fun a w _ _ => res0 rfl a.tmps w) ?_
  exact ⟨[], H0, rfl, h0, rfl⟩
theorem Seq84 (bb mb clk : Nat) : SeqSp Tryz.prog 208 #[ptr bb 0] [[(bb, .cells [.map (some mb)] 84 (0, 0))], [(mb, .map [] clk)]] k2 (fun _ => False) (fun xs => xs = []) := by
  intro l I _ H0 h0
  refine Sp.intro Tryz.func208 rfl rfl rfl fun w K => ?_
  refine J.perm (H' := [[(bb, .cells [.map (some mb)] 84 (0, 0))], [(mb, .map [] clk)]] ++ H0) List.perm_append_comm ?_
  (try refine wk ?_); (repeat (intro b; (try refine wk ?_)))
  refine J.op rfl ?_; refine J.isRange ?_; refine J.range 1 rfl rfl rfl rfl rfl ?_; intro r
  (try refine wk ?_); (repeat (intro b; (try refine wk ?_)))
  refine J.pick [5] rfl ?_
  refine J.loop (α := Unit) (fun _ => _) (fun _ => _) (fun _ => True) (fun _ => 0) () trivial (fun _ _ h => h) rfl (fun _ _ => ?_)
  (try refine wk ?_); (repeat (intro b; (try refine wk ?_)))
  refine J.op rfl ?_; refine J.isNext ?_; refine J.next (dn := []) (es := []) (i := 2) (j := 0) (b := mb) (clk := clk) (by simp) rfl rfl rfl rfl rfl rfl (fun _ => rfl) (fun _ => ?_) (fun e he => by cases he)
  (try refine wk ?_); (repeat (intro b; (try refine wk ?_)))
  refine J.drop 0 ?_
  refine J.perm (H' := H0 ++ [[(bb, .cells [.map (some mb)] 84 (0, 0))], [(mb, .map [] clk)]]) List.perm_append_comm ?_
  refine J.done (fun a w _ _ => res0 rfl a.tmps w) ?_
  exact ⟨[], H0, rfl, h0, rfl⟩
theorem AppSeqK {gf : Nat} {gfn : Func} {lb : Array Value} {Fs : Hs} (hf : Tryz.prog.funcs[gf]? = some gfn) (hb : gfn.body.isNone = false) (hn : (gfn.name == "runtime.NumGoroutine") = false)
    (seq : SeqSp Tryz.prog gf lb Fs k2 (fun _ => False) (fun xs => xs = [])) : Sp Tryz.prog 237 #[nils, .func (.func gf) #[] lb] Fs (fun v H => v = nils ∧ H = Fs) := by
  refine Sp.introM Tryz.func237 rfl rfl rfl fun w K => ?_
  (try refine wkI ?_); (repeat (intro b; (try refine wkI ?_)))
  refine J.rangeFunc (H0 := [[(b, .cells [nils] 168 (0, 0))]]) (fun pre H => pre = [] ∧ H = [[(b, .cells [nils] 168 (0, 0))]]) ⟨rfl, rfl⟩ rfl hf hb hn seq (fun _ => rfl) (fun t ht => by simp at ht; subst ht; rfl) (fun _ _ _ _ _ _ _ _ _ h => h.elim) ?_
  rintro D xs H1 rfl ⟨_, rfl⟩
  (try refine wkD ?_); (repeat (intro b; (try refine wkD ?_)))
  refine J.toCID ?_
  (try refine wkD ?_); (repeat (intro b; (try refine wkD ?_)))
  refine J.drop 0 ?_
  refine J.norm (H' := Fs ++ [[(D, .obj (.deferred (some [])))]]) rfl ?_
  exact J.doneM (.inl rfl) (v := nils) (res1M rfl rfl) ⟨rfl, rfl⟩
end Go.Proofs.YF
namespace Go.Proofs.YF
open Go YE
attribute [local irreducible] CW LW OW XW AW PW HW RW AK HK AP HP DX CI LI OI BW RE MW J Gives
set_option maxHeartbeats 1000000
set_option maxRecDepth 20000

def kof (e : MapEntry) : Int := match e.key with
  | .int _ n => n
  | _ => 0
theorem kof_key {ν : Type} {encV : ν → Value} {m : List (Int × ν)} {es : List MapEntry} {clk : Nat} (h : MapOK ki encV m es clk) : es.map kof = m.map (·.1) ∧ ∀ e, e ∈ es → e.key = ki (kof e) := by
  have hk := h.keys
  clear h
  induction es generalizing m with
  | nil => cases m <;> simp_all
  | cons e r ih =>
    cases m with
    | nil => simp at hk
    | cons p q =>
      simp only [List.map_cons, List.cons.injEq] at hk
      obtain ⟨h1, h2⟩ := ih hk.2
      have he : kof e = p.1 := by unfold kof; rw [hk.1]
      refine ⟨by simp [he, h1], fun x hx => ?_⟩
      rcases List.mem_cons.1 hx with rfl | hx
      · rw [he, hk.1]
      · exact h2 x hx
theorem born_nodup {es : List MapEntry} (h : es.Pairwise (fun a b => a.born < b.born)) : es.Nodup := h.imp fun h e => by subst e; omega
theorem Seq45 (bb mb : Nat) (nl : List (Int × Nd)) (es : List MapEntry) (clk : Nat) (hm : MapOK ki Nd.v nl es clk) :
    SeqSp Tryz.prog 162 #[ptr bb 0] [[(bb, .cells [.map (some mb)] 45 (0, 0))], [(mb, .map es clk)]] (fun x : Int => [i64 x]) (fun pre => pre.length ≤ nl.length) (fun xs => xs.Perm (nl.map (·.1))) := by
  intro l I hI H0 h0
  obtain ⟨hk1, hk2⟩ := kof_key hm
  have hes := born_nodup hm.born
  have hlen := hm.len
  refine Sp.intro Tryz.func162 rfl rfl rfl fun w K => ?_
  refine J.perm (H' := [[(bb, .cells [.map (some mb)] 45 (0, 0))], [(mb, .map es clk)]] ++ H0) List.perm_append_comm ?_
  (try refine wk ?_); (repeat (intro b; (try refine wk ?_)))
  refine J.op rfl ?_; refine J.isRange ?_; refine J.range 1 rfl rfl rfl rfl rfl ?_; intro r
  (try refine wk ?_); (repeat (intro b; (try refine wk ?_)))
  refine J.pick [0, 5] rfl ?_
  refine J.loop (α := List MapEntry × Hs) (fun _ => _) (fun z => [[(r, iter mb clk z.1)], [(bb, .cells [.map (some mb)] 45 (0, 0))], [(mb, .map es clk)]] ++ z.2) (fun z => (∃ rest, (z.1 ++ rest).Perm es) ∧ I (z.1.map kof) z.2) (fun z => es.length - z.1.length) ([], H0) ⟨⟨es, List.Perm.refl _⟩, h0⟩ (fun _ _ h => h) rfl ?_
  rintro ⟨dn, H1⟩ ⟨⟨rest, hp⟩, hi⟩
  simp only at hp hi
  have hsub : ∀ e, e ∈ dn → e ∈ es := fun e he => hp.mem_iff.1 (List.mem_append.2 (.inl he))
  have hnd : dn.Nodup := (List.nodup_append.1 (hp.nodup_iff.2 hes)).1
  have hpl := hp.length_eq
  rw [List.length_append] at hpl
  refine J.seq ?_; refine J.region ?_
  refine J.op rfl ?_; refine J.isNext ?_; refine J.next (dn := dn) (es := es) (i := 2) (j := 0) (b := mb) (clk := clk) hm.lt rfl rfl rfl rfl rfl rfl (fun _ => rfl) (fun hall => ?_) (fun e he hne => ?_)
  · (try refine wk ?_); (repeat (intro b; (try refine wk ?_)))
    have hpe := perm_of_all hm.born hnd hsub hall
    refine J.drop 0 ?_
    refine J.perm (H' := H1 ++ [[(bb, .cells [.map (some mb)] 45 (0, 0))], [(mb, .map es clk)]]) List.perm_append_comm ?_
    refine J.done (fun a w _ _ => res0 rfl a.tmps w) ?_
    exact ⟨dn.map kof, H1, by rw [← hk1]; exact hpe.map kof, hi, rfl⟩
  · have her : e ∈ rest := by
      rcases List.mem_append.1 (hp.mem_iff.2 he) with h | h
      · exact absurd (List.mem_map.2 ⟨e, h, rfl⟩) hne
      · exact h
    obtain ⟨s, t, rfl⟩ := List.append_of_mem her
    have hp2 : ((dn ++ [e]) ++ (s ++ t)).Perm es := by
      refine List.Perm.trans ?_ hp
      rw [List.append_assoc]
      show (dn ++ (e :: (s ++ t))).Perm _
      exact List.Perm.append_left _ List.perm_middle.symm
    have hlt : (dn ++ [e]).length ≤ es.length := by
      have := hp2.length_eq
      rw [List.length_append] at this; omega
    have hmap : (dn ++ [e]).map kof = dn.map kof ++ [kof e] := by simp
    have hok : (dn.map kof ++ [kof e]).length ≤ nl.length := by rw [← hmap, List.length_map]; omega
    have spec := hI (dn.map kof) (kof e) H1 hi hok
    rw [← hmap] at spec
    have hkey := hk2 e he
    (try refine wk ?_); (repeat (intro b; (try refine wk ?_)))
    refine J.op rfl ?_; refine J.isEntry ?_; refine J.give (Gives.entry (dn := dn) (e := e) (es := es) (clk := clk) (b := mb) 2 0 hm.born he rfl rfl rfl rfl) rfl rfl ?_
    refine J.op rfl ?_
    (refine wo ?_; (try intro b))
    refine J.op rfl ?_
    (refine wo ?_; (try intro b))
    refine J.slot 3 (i64 (kof e)) rfl hkey ?_
    refine J.nil ?_; refine J.thenN ?_; refine J.seq ?_; refine J.ofCI ?_; refine J.regionI ?_
    refine J.opI rfl rfl ?_
    (refine wo ?_; (try intro b))
    refine J.opI rfl rfl ?_
    (refine wo ?_; (try intro b))
    refine J.perm (H' := H1 ++ [[(r, iter mb clk (dn ++ [e]))], [(bb, .cells [.map (some mb)] 45 (0, 0))], [(mb, .map es clk)]]) List.perm_append_comm ?_
    refine J.opY rfl ?_; refine J.yield (l := l) (args := [i64 (kof e)]) spec rfl rfl rfl (fun H2 hR => ?_)
    refine J.perm (H' := [[(r, iter mb clk (dn ++ [e]))], [(bb, .cells [.map (some mb)] 45 (0, 0))], [(mb, .map es clk)]] ++ H2) List.perm_append_comm ?_
    (try refine wkI ?_); (repeat (intro b; (try refine wkI ?_)))
    (try refine wk ?_); (repeat (intro b; (try refine wk ?_)))
    refine J.pick [0, 5] rfl ?_
    exact J.round (dn ++ [e], H2) ⟨⟨s ++ t, hp2⟩, hR⟩ (by show es.length - (dn ++ [e]).length < es.length - dn.length; simp at hlt ⊢; omega) (fun _ _ h => h) rfl
theorem AppSeqI {gf : Nat} {gfn : Func} {lb : Array Value} {Fs : Hs} {Ok Done : List Int → Prop} (hf : Tryz.prog.funcs[gf]? = some gfn) (hb : gfn.body.isNone = false) (hn : (gfn.name == "runtime.NumGoroutine") = false)
    (seq : SeqSp Tryz.prog gf lb Fs (fun x : Int => [i64 x]) Ok Done) (hok : ∀ pre, Ok pre → pre.length ≤ 1000) : Sp Tryz.prog 209 #[nils, .func (.func gf) #[] lb] Fs (fun v H => ∃ xs Hr, Done xs ∧ Sl 3 1 v xs.length (ints xs) Hr ∧ H = Hr :: Fs) := by
  refine Sp.introM Tryz.func209 rfl rfl rfl fun w K => ?_
  (try refine wkI ?_); (repeat (intro b; (try refine wkI ?_)))
  refine J.nilAt 1 rfl ?_
  refine J.norm (H' := [[(b, .cells [nils] 25 (0, 0))], []] ++ Fs) rfl ?_
  refine J.rangeFunc (H0 := [[(b, .cells [nils] 25 (0, 0))], []]) (fun pre H => ∃ v Hr, Sl 3 1 v pre.length (ints pre) Hr ∧ H = [[(b, .cells [v] 25 (0, 0))], Hr]) ⟨nils, [], Sl.nil 3 1, rfl⟩ rfl hf hb hn seq (fun _ => rfl) (fun t ht => by simp at ht; subst ht; rfl) ?_ ?_
  · rintro w0 K0 l rec pre x _ hst ⟨v, Hr, hs, rfl⟩ hk
    have hk := hok _ hk
    rw [List.length_append] at hk
    have hk1 : pre.length + 1 ≤ 1000 := hk
    (try refine wkI ?_); (repeat (intro b; (try refine wkI ?_)))
    refine J.begin (i := 2) rfl hst rfl ?_
    (try refine wkI ?_); (repeat (intro b; (try refine wkI ?_)))
    refine J.opI rfl rfl ?_; refine J.isBuildSlice ?_; refine J.buildSl [i64 x] (cs := [i64 x]) rfl rfl rfl rfl rfl (fun v hv => by rw [List.mem_singleton.1 hv]; rfl) rfl rfl rfl ?_
    intro bn
    refine J.front 2 rfl rfl ?_
    refine J.nm ?_
    refine J.opI rfl rfl ?_; refine J.isBuiltin ?_; refine J.append (news := [i64 x]) 0 hs rfl rfl rfl rfl rfl (fun u hu => by rw [List.mem_singleton.1 hu]; rfl) (by simp) (by simp) ⟨by omega, by have : maxLen = 9223372036854775807 := rfl; omega⟩ rfl ?_
    intro v2 Hr2 hs2
    have hv2 := hs2.one
    (try refine wkI ?_); (repeat (intro b; (try refine wkI ?_)))
    refine J.drop 1 ?_
    refine J.front 1 rfl rfl ?_
    refine J.nm ?_
    refine J.endRound (R := fun H => ∃ v Hr, Sl 3 1 v (pre ++ [x]).length (ints (pre ++ [x])) Hr ∧ H = [[(b, .cells [v] 25 (0, 0))], Hr]) [[(b, .cells [v2] 25 (0, 0))], Hr2] ⟨v2, Hr2, ?_, rfl⟩ rfl
    simpa using hs2
  · rintro D xs _ hd ⟨v, Hr, hs, rfl⟩
    (try refine wkD ?_); (repeat (intro b; (try refine wkD ?_)))
    refine J.toCID ?_
    (try refine wkD ?_); (repeat (intro b; (try refine wkD ?_)))
    refine J.drop 0 ?_
    refine J.norm (H' := (Hr :: Fs) ++ [[(D, .obj (.deferred (some [])))]]) rfl ?_
    exact J.doneM (.inl rfl) (v := v) (res1M rfl rfl) ⟨xs, Hr, hd, hs, rfl⟩
theorem CollectI {gf : Nat} {gfn : Func} {lb : Array Value} {Fs : Hs} {Ok Done : List Int → Prop} (hf : Tryz.prog.funcs[gf]? = some gfn) (hb : gfn.body.isNone = false) (hn : (gfn.name == "runtime.NumGoroutine") = false)
    (seq : SeqSp Tryz.prog gf lb Fs (fun x : Int => [i64 x]) Ok Done) (hok : ∀ pre, Ok pre → pre.length ≤ 1000) : Sp Tryz.prog 161 #[.func (.func gf) #[] lb] Fs (fun v H => ∃ xs Hr, Done xs ∧ Sl 3 1 v xs.length (ints xs) Hr ∧ H = Hr :: Fs) := by
  refine Sp.intro Tryz.func161 rfl rfl rfl fun w K => ?_
  (try refine wk ?_); (repeat (intro b; (try refine wk ?_)))
  refine J.norm (H' := Fs ++ []) (by simp) ?_
  (refine J.op rfl ?_; refine J.isCallF ?_; refine J.call (H1 := Fs) (AppSeqI hf hb hn seq hok) rfl rfl rfl rfl ?_)
  rintro v _ ⟨xs, Hr, hd, hs, rfl⟩; refine J.put rfl ?_
  refine J.norm (H' := Hr :: Fs) (by simp) ?_
  (try refine wk ?_); (repeat (intro b; (try refine wk ?_)))
  refine J.done_ret (res1 rfl rfl) ?_
  exact ⟨xs, Hr, hd, hs, rfl⟩
/-- Collected and sorted: at most one. -/
theorem SortedI {gf : Nat} {gfn : Func} {lb : Array Value} {Fs : Hs} {Ok Done : List Int → Prop} (hf : Tryz.prog.funcs[gf]? = some gfn) (hb : gfn.body.isNone = false) (hn : (gfn.name == "runtime.NumGoroutine") = false)
    (seq : SeqSp Tryz.prog gf lb Fs (fun x : Int => [i64 x]) Ok Done) (hok : ∀ pre, Ok pre → pre.length ≤ 1000) (hone : ∀ xs, Done xs → xs.length ≤ 1) : Sp Tryz.prog 116 #[.func (.func gf) #[] lb] Fs (fun v H => ∃ xs Hr, Done xs ∧ Sl 3 1 v xs.length (ints xs) Hr ∧ H = Hr :: Fs) := by
  refine Sp.intro Tryz.func116 rfl rfl rfl fun w K => ?_
  (try refine wk ?_); (repeat (intro b; (try refine wk ?_)))
  refine J.norm (H' := Fs ++ []) (by simp) ?_
  (refine J.op rfl ?_; refine J.isCallF ?_; refine J.call (H1 := Fs) (CollectI hf hb hn seq hok) rfl rfl rfl rfl ?_)
  rintro v _ ⟨xs, Hr, hd, hs, rfl⟩; refine J.put rfl ?_
  refine J.norm (H' := Hr :: Fs) (by simp) ?_
  obtain ⟨p, cc, rfl⟩ := Sl.slice hs
  (try refine wk ?_); (repeat (intro b; (try refine wk ?_)))
  (refine J.op rfl ?_; refine J.isCallF ?_; refine J.call (H1 := []) (SortS p xs.length cc (hone xs hd)) rfl rfl rfl rfl ?_)
  rintro _ _ rfl; refine J.put rfl ?_
  refine J.norm (H' := Hr :: Fs) rfl ?_
  (try refine wk ?_); (repeat (intro b; (try refine wk ?_)))
  refine J.done_ret (res1 rfl rfl) ?_
  exact ⟨xs, Hr, hd, hs, rfl⟩
theorem CollectK {gf : Nat} {gfn : Func} {lb : Array Value} {Fs : Hs} (hf : Tryz.prog.funcs[gf]? = some gfn) (hb : gfn.body.isNone = false) (hn : (gfn.name == "runtime.NumGoroutine") = false)
    (seq : SeqSp Tryz.prog gf lb Fs k2 (fun _ => False) (fun xs => xs = [])) : Sp Tryz.prog 205 #[.func (.func gf) #[] lb] Fs (fun v H => v = nils ∧ H = Fs) := by
  refine Sp.intro Tryz.func205 rfl rfl rfl fun w K => ?_
  (try refine wk ?_); (repeat (intro b; (try refine wk ?_)))
  refine J.norm (H' := Fs ++ []) (by simp) ?_
  (refine J.op rfl ?_; refine J.isCallF ?_; refine J.call (H1 := Fs) (AppSeqK hf hb hn seq) rfl rfl rfl rfl ?_)
  rintro v Hq ⟨rfl, hq⟩; refine J.put rfl ?_
  refine J.norm (H' := Fs) (by rw [hq]; simp) ?_
  (try refine wk ?_); (repeat (intro b; (try refine wk ?_)))
  refine J.done_ret (res1 rfl rfl) ?_
  exact ⟨rfl, rfl⟩
theorem SortedFuncK {gf : Nat} {gfn : Func} {lb : Array Value} {Fs : Hs} (hf : Tryz.prog.funcs[gf]? = some gfn) (hb : gfn.body.isNone = false) (hn : (gfn.name == "runtime.NumGoroutine") = false)
    (seq : SeqSp Tryz.prog gf lb Fs k2 (fun _ => False) (fun xs => xs = [])) (cmp : Value) : Sp Tryz.prog 155 #[.func (.func gf) #[] lb, cmp] Fs (fun v H => v = nils ∧ H = Fs) := by
  refine Sp.intro Tryz.func155 rfl rfl rfl fun w K => ?_
  (try refine wk ?_); (repeat (intro b; (try refine wk ?_)))
  refine J.norm (H' := Fs ++ []) (by simp) ?_
  (refine J.op rfl ?_; refine J.isCallF ?_; refine J.call (H1 := Fs) (CollectK hf hb hn seq) rfl rfl rfl rfl ?_)
  rintro v Hq ⟨rfl, hq⟩; refine J.put rfl ?_
  refine J.norm (H' := Fs) (by rw [hq]; simp) ?_
  (try refine wk ?_); (repeat (intro b; (try refine wk ?_)))
  (refine J.op rfl ?_; refine J.isCallF ?_; refine J.call (H1 := []) (SortC none 0 cmp) rfl rfl rfl rfl ?_)
  rintro _ _ rfl; refine J.put rfl ?_
  refine J.norm (H' := Fs) rfl ?_
  (try refine wk ?_); (repeat (intro b; (try refine wk ?_)))
  refine J.done_ret (res1 rfl rfl) ?_
  exact ⟨rfl, rfl⟩
/-- The keys of maps without entries, sorted: none. -/
theorem SortedStr (mb clk : Nat) : Sp Tryz.prog 112 #[.map (some mb)] [[(mb, .map [] clk)]] (fun v H => v = nils ∧ H = [[(mb, .map [] clk)]]) := by
  refine Sp.intro Tryz.func112 rfl rfl rfl fun w K => ?_
  (try refine wk ?_); (repeat (intro b; (try refine wk ?_)))
  (refine J.op rfl ?_; refine J.isCallF ?_; refine J.call (H1 := []) (Keys83 mb) rfl rfl rfl rfl ?_)
  rintro _ _ ⟨bb, rfl, rfl⟩; refine J.put rfl ?_; refine J.nm ?_
  (refine J.op rfl ?_; refine J.isCallF ?_; refine J.call (H1 := [_, _]) (SortedFuncK Tryz.func207 rfl rfl (Seq83 bb mb clk) (.func (.func 157) #[] #[])) rfl rfl rfl rfl ?_)
  rintro _ _ ⟨rfl, rfl⟩; refine J.put rfl ?_; refine J.nm ?_
  (try refine wk ?_); (repeat (intro b; (try refine wk ?_)))
  refine J.drop 0 ?_
  refine J.done_ret (res1 rfl rfl) ?_
  exact ⟨rfl, rfl⟩
theorem SortedBool (mb clk : Nat) : Sp Tryz.prog 114 #[.map (some mb)] [[(mb, .map [] clk)]] (fun v H => v = nils ∧ H = [[(mb, .map [] clk)]]) := by
  refine Sp.intro Tryz.func114 rfl rfl rfl fun w K => ?_
  (try refine wk ?_); (repeat (intro b; (try refine wk ?_)))
  (refine J.op rfl ?_; refine J.isCallF ?_; refine J.call (H1 := []) (Keys84 mb) rfl rfl rfl rfl ?_)
  rintro _ _ ⟨bb, rfl, rfl⟩; refine J.put rfl ?_; refine J.nm ?_
  (refine J.op rfl ?_; refine J.isCallF ?_; refine J.call (H1 := [_, _]) (SortedFuncK Tryz.func208 rfl rfl (Seq84 bb mb clk) (.func (.func 159) #[] #[])) rfl rfl rfl rfl ?_)
  rintro _ _ ⟨rfl, rfl⟩; refine J.put rfl ?_; refine J.nm ?_
  (try refine wk ?_); (repeat (intro b; (try refine wk ?_)))
  refine J.drop 0 ?_
  refine J.done_ret (res1 rfl rfl) ?_
  exact ⟨rfl, rfl⟩
end Go.Proofs.YF
namespace Go.Proofs.YF
open Go YE
attribute [local irreducible] CW LW OW XW AW PW HW RW AK HK AP HP DX CI LI OI BW RE MW J Gives
set_option maxHeartbeats 1000000
set_option maxRecDepth 20000

abbrev pcells (da inn no : Nat) (go : Value) (af fr : Nat) : List Value := [.map (some da), .map (some inn), .map (some no), go, .map (some af), .map (some fr)]
theorem Empties : Sp Tryz.prog 104 #[] [] (fun v H => ∃ pb da inn no af fr, v = ptr pb 0 ∧ H = [[(pb, .cells (pcells da inn no nils af fr) 159 (0, 0))], [(da, .map [] 0)], [(inn, .map [] 0)], [(no, .map [] 0)], [(af, .map [] 0)], [(fr, .map [] 0)]]) := by
  refine Sp.intro Tryz.func104 rfl rfl rfl fun w K => ?_
  refine J.seq ?_; refine J.region ?_; refine J.op rfl ?_
  (refine wo ?_; (try intro b))
  refine J.nil ?_; refine J.thenN ?_; refine J.seq ?_; refine J.region ?_
  refine J.op rfl ?_; refine J.isMakeMap ?_; refine J.makeMap rfl rfl rfl ?_; intro da
  refine J.op rfl ?_; refine J.isMakeMap ?_; refine J.makeMap rfl rfl rfl ?_; intro inn
  refine J.op rfl ?_; refine J.isMakeMap ?_; refine J.makeMap rfl rfl rfl ?_; intro no
  refine J.op rfl ?_; refine J.isMakeMap ?_; refine J.makeMap rfl rfl rfl ?_; intro af
  refine J.op rfl ?_; refine J.isMakeMap ?_; refine J.makeMap rfl rfl rfl ?_; intro fr
  refine J.op rfl ?_; refine J.isBuild ?_; refine J.give (Gives.build (vs := [(0, .map (some da)), (1, .map (some inn)), (2, .map (some no)), (3, nils), (4, .map (some af)), (5, .map (some fr))]) (cells := #[.map (some da), .map (some inn), .map (some no), nils, .map (some af), .map (some fr)]) rfl rfl rfl) rfl rfl ?_
  (try refine wk ?_); (repeat (intro b; (try refine wk ?_)))
  refine J.front 1 rfl rfl ?_
  refine J.front 2 rfl rfl ?_
  refine J.front 3 rfl rfl ?_
  refine J.front 4 rfl rfl ?_
  refine J.front 5 rfl rfl ?_
  refine J.front 5 rfl rfl ?_
  refine J.nm ?_
  refine J.done_ret (res1 rfl rfl) ?_
  exact ⟨b, da, inn, no, af, fr, rfl, rfl⟩
theorem Size (pb da inn no : Nat) (p : Option Addr) (gn gc : Nat) (af fr : Nat) (de ie ne : List MapEntry) (dc ic nc : Nat) (h1 : de.length ≤ 100000) (h2 : ie.length ≤ 100000) (h3 : ne.length ≤ 100000) (h4 : gn ≤ 100000) :
    Sp Tryz.prog 60 #[ptr pb 0] [[(pb, .cells (pcells da inn no (.slice p gn gc) af fr) 159 (0, 0))], [(da, .map de dc)], [(inn, .map ie ic)], [(no, .map ne nc)]]
      (fun v H => v = i64 ((de.length + ie.length + ne.length + gn : Nat)) ∧ H = [[(pb, .cells (pcells da inn no (.slice p gn gc) af fr) 159 (0, 0))], [(da, .map de dc)], [(inn, .map ie ic)], [(no, .map ne nc)]]) := by
  refine Sp.intro Tryz.func60 rfl rfl rfl fun w K => ?_
  (try refine wk ?_); (repeat (intro b; (try refine wk ?_)))
  refine J.any Tryz.mixed [[(pb, .cells (pcells da inn no (.slice p gn gc) af fr) 159 (0, 0))], [(da, .map de dc)], [(inn, .map ie ic)], [(no, .map ne nc)]] ?_
  refine J.tk 0 ?_
  refine J.tk 1 ?_
  refine J.tk 2 ?_
  refine J.tk 3 ?_
  refine J.tk 4 ?_
  refine J.tk 5 ?_
  refine J.tk 6 ?_
  refine J.tk 7 ?_
  refine J.tk 8 ?_
  refine J.tk 9 ?_
  refine J.tk 10 ?_
  refine J.tk 11 ?_
  refine J.tk 12 ?_
  refine J.tk 13 ?_
  refine J.tk 14 ?_
  refine J.tk 15 ?_
  refine J.tk 16 ?_
  refine J.tk 17 ?_
  refine J.tk 18 ?_
  refine J.tk 19 ?_
  refine J.tk 20 ?_
  refine J.tk 21 ?_
  refine J.tk 22 ?_
  refine J.tk 23 ?_
  refine J.al ?_
  (try refine wk ?_); (repeat (intro b; (try refine wk ?_)))
  refine J.done_ret (res1 rfl rfl) ?_
  exact ⟨congrArg i64 (by omega), rfl⟩
theorem RoomOfS (bst : Nat) (st : Sto) (p : Option Addr) (n c : Nat) (hsv : st.sv = .slice p n c) (hN : 8 ≤ st.N ∧ st.N ≤ 500) (hn : 4 ≤ n ∧ n ≤ 500) :
    Sp Tryz.prog 61 #[ptr bst 0] [[(bst, .cells st.cells 92 (0, 0))]] (fun v H => v = i64 (((n : Int) - 4) * 8) ∧ H = [[(bst, .cells st.cells 92 (0, 0))]]) := by
  refine Sp.intro Tryz.func61 rfl rfl rfl fun w K => ?_
  obtain ⟨d, N, gen, sv, lg, num, m0, m1, m2, m3, base, last, vs, vt, vn, vu, vg⟩ := st
  simp only at hsv hN
  subst hsv
  (try refine wk ?_); (repeat (intro b; (try refine wk ?_)))
  refine J.any Tryz.mixed [[(bst, .cells ({ d := d, N := N, gen := gen, sv := .slice p n c, lg := lg, num := num, m0 := m0, m1 := m1, m2 := m2, m3 := m3, base := base, last := last, vs := vs, vt := vt, vn := vn, vu := vu, vg := vg } : Sto).cells 92 (0, 0))]] ?_
  refine J.tk 0 ?_
  refine J.tk 1 ?_
  refine J.tk 2 ?_
  (first | refine J.tk 3 ?_ | (refine J.tkO 3 ?_; first | refine J.giveT (Gives.build (vs := [(0, i64 n)]) (cells := #[i64 n, i64 0, i64 0, i64 0, i64 0, i64 0, i64 0]) rfl rfl rfl) rfl rfl ?_))
  refine J.tk 4 ?_
  refine J.tk 5 ?_
  refine J.tk 6 ?_
  (first | refine J.tk 7 ?_ | (refine J.tkO 7 ?_; first | refine J.giveT (Gives.build (vs := [(0, i64 n)]) (cells := #[i64 n, i64 0, i64 0, i64 0, i64 0, i64 0, i64 0]) rfl rfl rfl) rfl rfl ?_))
  (first | refine J.tk 8 ?_ | (refine J.tkO 8 ?_; first | refine J.giveT (Gives.build (vs := [(0, i64 n)]) (cells := #[i64 n, i64 0, i64 0, i64 0, i64 0, i64 0, i64 0]) rfl rfl rfl) rfl rfl ?_))
  (first | refine J.tk 9 ?_ | (refine J.tkO 9 ?_; first | refine J.giveT (Gives.build (vs := [(0, i64 n)]) (cells := #[i64 n, i64 0, i64 0, i64 0, i64 0, i64 0, i64 0]) rfl rfl rfl) rfl rfl ?_))
  refine J.on 10 ?_ -- call
  refine J.isCallF ?_; refine J.call (H1 := []) (Room N n (by omega) (by omega) (by omega) (by omega)) rfl rfl rfl rfl ?_
  rintro _ _ ⟨rfl, rfl⟩; refine J.pn ?_
  refine J.hd ?_
  refine J.tk 11 ?_
  refine J.al ?_
  (try refine wk ?_); (repeat (intro b; (try refine wk ?_)))
  refine J.done_ret (res1 rfl rfl) ?_
  exact ⟨rfl, rfl⟩
abbrev sameH (x : Slv) : Hdv := ⟨0, 0, 0, 0, 0, x.clock, x.sb, x.sn⟩
theorem Same (bst lb d0 : Nat) (st : Sto) (hlg : st.lg = ptr lb 0) (N gen : Int) (x : Slv) (fv : Value) :
    Sp Tryz.prog 86 #[ptr bst 0] [[(bst, .cells st.cells 92 (0, 0))], [(lb, .cells (lcell d0 N gen x fv) 190 (0, 0))]] (fun v H => v = (sameH x).v nils ∧ H = [[(bst, .cells st.cells 92 (0, 0))], [(lb, .cells (lcell d0 N gen x fv) 190 (0, 0))]]) := by
  refine Sp.intro Tryz.func86 rfl rfl rfl fun w K => ?_
  obtain ⟨d, N', gen', sv, lg, num, m0, m1, m2, m3, base, last, vs, vt, vn, vu, vg⟩ := st
  simp only at hlg
  subst hlg
  refine J.seq ?_; refine J.region ?_; refine J.op rfl ?_
  (refine wo ?_; (try intro b))
  obtain ⟨b2, rfl⟩ : ∃ q, q = b := ⟨b, rfl⟩
  (try refine wk ?_); (repeat (intro b; (try refine wk ?_)))
  refine J.front 2 rfl rfl ?_
  refine J.nm ?_
  (refine J.op rfl ?_; refine J.isCallF ?_; refine J.call (H1 := [_]) (PlaceOf lb d0 N gen x fv) rfl rfl rfl rfl ?_)
  rintro _ _ ⟨rfl, rfl⟩; refine J.pn ?_
  (try refine wk ?_); (repeat (intro b; (try refine wk ?_)))
  refine J.op rfl ?_; refine J.isBuild ?_; refine J.give (Gives.build (vs := [(5, i64 x.clock), (6, i64 x.sb), (7, i64 x.sn)]) (cells := ((sameH x).cells nils).toArray) rfl rfl rfl) rfl rfl ?_
  (try refine wk ?_); (repeat (intro b; (try refine wk ?_)))
  refine J.front 2 rfl rfl ?_
  refine J.front 2 rfl rfl ?_
  refine J.front 3 rfl rfl ?_
  refine J.nm ?_
  exact J.done_first 2 (resA 2 rfl rfl rfl rfl rfl) rfl ⟨rfl, rfl⟩
theorem CopyE (a mb clk : Nat) : Sp Tryz.prog 105 #[.map (some a), .map (some mb)] [[(mb, .map [] clk)]] (fun _ H => H = [[(mb, .map [] clk)]]) := by
  refine Sp.intro Tryz.func105 rfl rfl rfl fun w K => ?_
  (try refine wk ?_); (repeat (intro b; (try refine wk ?_)))
  refine J.op rfl ?_; refine J.isRange ?_; refine J.range 0 rfl rfl rfl rfl rfl ?_; intro r
  (try refine wk ?_); (repeat (intro b; (try refine wk ?_)))
  refine J.pick [0, 7] rfl ?_
  refine J.loop (α := Unit) (fun _ => _) (fun _ => _) (fun _ => True) (fun _ => 0) () trivial (fun _ _ h => h) rfl (fun _ _ => ?_)
  (try refine wk ?_); (repeat (intro b; (try refine wk ?_)))
  refine J.op rfl ?_; refine J.isNext ?_; refine J.next (dn := []) (es := []) (i := 1) (j := 0) (by simp) rfl rfl rfl rfl rfl rfl (fun _ => rfl) (fun _ => ?_) (fun e he => by cases he)
  (try refine wk ?_); (repeat (intro b; (try refine wk ?_)))
  refine J.drop 0 ?_
  refine J.nm ?_
  refine J.done (fun a w _ _ => res0 rfl a.tmps w) ?_
  rfl
theorem Has0 (bst sb sc : Nat) (st : Sto) (hvs : st.vs = .map (some sb)) (n : Int) (bl : List (Int × Nat)) (be : List MapEntry) (bc : Nat) (hbm : MapOK ki kp bl be bc) (hb : aget bl n = none) :
    Sp Tryz.prog 35 #[ptr bst 0, i64 n] [[(bst, .cells st.cells 92 (0, 0))], [(sb, .map [] sc)], [(st.base, .map be bc)]] (fun v H => v = nils ∧ H = [[(bst, .cells st.cells 92 (0, 0))], [(sb, .map [] sc)], [(st.base, .map be bc)]]) := by
  refine Sp.intro Tryz.func35 rfl rfl rfl fun w K => ?_
  obtain ⟨d, N, gen, sv, lg, num, m0, m1, m2, m3, base, last, vs, vt, vn, vu, vg⟩ := st
  simp only at hvs
  subst hvs
  (try refine wk ?_); (repeat (intro b; (try refine wk ?_)))
  refine J.op rfl ?_; refine J.isRange ?_; refine J.range 1 rfl rfl rfl rfl rfl ?_; intro r
  (try refine wk ?_); (repeat (intro b; (try refine wk ?_)))
  refine J.pick [0, 1, 5, 14] rfl ?_
  refine J.loop (α := Unit) (fun _ => _) (fun _ => _) (fun _ => True) (fun _ => 0) () trivial (fun _ _ h => h) rfl (fun _ _ => ?_)
  (try refine wk ?_); (repeat (intro b; (try refine wk ?_)))
  refine J.op rfl ?_; refine J.isNext ?_; refine J.next (dn := []) (es := []) (i := 2) (j := 0) (by simp) rfl rfl rfl rfl rfl rfl (fun _ => rfl) (fun _ => ?_) (fun e he => by cases he)
  (try refine wk ?_); (repeat (intro b; (try refine wk ?_)))
  refine J.drop 0 ?_
  refine J.nm ?_
  refine J.op rfl ?_; refine J.isLookup ?_; refine J.give (Gives.look (enc := ki) (encV := kp) 2 keyI hbm rfl rfl rfl rfl) rfl rfl ?_
  refine J.slot 33 (.pointer none) rfl (by rw [hb]; rfl) ?_
  (try refine wk ?_); (repeat (intro b; (try refine wk ?_)))
  (refine J.op rfl ?_; refine J.isCallF ?_; refine J.call (H1 := []) (SortS none 0 0 (by omega)) rfl rfl rfl rfl ?_)
  rintro _ _ rfl; refine J.pn ?_
  (try refine wk ?_); (repeat (intro b; (try refine wk ?_)))
  refine J.done_ret (res1 rfl rfl) ?_
  exact ⟨rfl, rfl⟩
theorem Has1 (bst sb sc p bm im mc : Nat) (st : Sto) (hvs : st.vs = .map (some sb)) (n : Int) (x : Nd) (sec : Int) (bl : List (Int × Nat)) (be : List MapEntry) (bc : Nat) (hbm : MapOK ki kp bl be bc) (hb : aget bl n = some p) :
    Sp Tryz.prog 35 #[ptr bst 0, i64 n] [[(bst, .cells st.cells 92 (0, 0))], [(sb, .map [] sc)], [(st.base, .map be bc)], [(p, .cells (stcells x sec bm im) 108 (0, 0))], [(bm, .map [] mc)]]
      (fun v H => v = nils ∧ H = [[(bst, .cells st.cells 92 (0, 0))], [(sb, .map [] sc)], [(st.base, .map be bc)], [(p, .cells (stcells x sec bm im) 108 (0, 0))], [(bm, .map [] mc)]]) := by
  refine Sp.intro Tryz.func35 rfl rfl rfl fun w K => ?_
  obtain ⟨d, N, gen, sv, lg, num, m0, m1, m2, m3, base, last, vs, vt, vn, vu, vg⟩ := st
  simp only at hvs
  subst hvs
  (try refine wk ?_); (repeat (intro b; (try refine wk ?_)))
  refine J.op rfl ?_; refine J.isRange ?_; refine J.range 1 rfl rfl rfl rfl rfl ?_; intro r
  (try refine wk ?_); (repeat (intro b; (try refine wk ?_)))
  refine J.pick [0, 1, 5, 14] rfl ?_
  refine J.loop (α := Unit) (fun _ => _) (fun _ => _) (fun _ => True) (fun _ => 0) () trivial (fun _ _ h => h) rfl (fun _ _ => ?_)
  (try refine wk ?_); (repeat (intro b; (try refine wk ?_)))
  refine J.op rfl ?_; refine J.isNext ?_; refine J.next (dn := []) (es := []) (i := 2) (j := 0) (by simp) rfl rfl rfl rfl rfl rfl (fun _ => rfl) (fun _ => ?_) (fun e he => by cases he)
  (try refine wk ?_); (repeat (intro b; (try refine wk ?_)))
  refine J.drop 0 ?_
  refine J.nm ?_
  refine J.op rfl ?_; refine J.isLookup ?_; refine J.give (Gives.look (enc := ki) (encV := kp) 2 keyI hbm rfl rfl rfl rfl) rfl rfl ?_
  refine J.slot 33 (ptr p 0) rfl (by rw [hb]; rfl) ?_
  (try refine wk ?_); (repeat (intro b; (try refine wk ?_)))
  refine J.op rfl ?_; refine J.isRange ?_; refine J.range 4 rfl rfl rfl rfl rfl ?_; intro r
  (try refine wk ?_); (repeat (intro b; (try refine wk ?_)))
  refine J.pick [0, 1, 5, 40] rfl ?_
  refine J.loop (α := Unit) (fun _ => _) (fun _ => _) (fun _ => True) (fun _ => 0) () trivial (fun _ _ h => h) rfl (fun _ _ => ?_)
  (try refine wk ?_); (repeat (intro b; (try refine wk ?_)))
  refine J.op rfl ?_; refine J.isNext ?_; refine J.next (dn := []) (es := []) (i := 5) (j := 0) (by simp) rfl rfl rfl rfl rfl rfl (fun _ => rfl) (fun _ => ?_) (fun e he => by cases he)
  (try refine wk ?_); (repeat (intro b; (try refine wk ?_)))
  refine J.drop 0 ?_
  refine J.nm ?_
  (refine J.op rfl ?_; refine J.isCallF ?_; refine J.call (H1 := []) (SortS none 0 0 (by omega)) rfl rfl rfl rfl ?_)
  rintro _ _ rfl; refine J.pn ?_
  (try refine wk ?_); (repeat (intro b; (try refine wk ?_)))
  refine J.done_ret (res1 rfl rfl) ?_
  exact ⟨rfl, rfl⟩
theorem Inds0 : Sp Tryz.prog 64 #[nils] [] (Is (i64 0)) := by
  refine Sp.intro Tryz.func64 rfl rfl rfl fun w K => ?_
  (try refine wk ?_); (repeat (intro b; (try refine wk ?_)))
  refine J.pick [3, 4, 5, 14, 15, 16] rfl ?_
  refine J.loop (α := Unit) (fun _ => _) (fun _ => _) (fun _ => True) (fun _ => 0) () trivial (fun _ _ h => h) rfl (fun _ _ => ?_)
  (try refine wk ?_); (repeat (intro b; (try refine wk ?_)))
  refine J.clear ?_; refine J.done_ret (res1 rfl rfl) ?_; refine ⟨?_, rfl⟩
  rfl
end Go.Proofs.YF
namespace Go.Proofs.YF
open Go YE
attribute [local irreducible] CW LW OW XW AW PW HW RW AK HK AP HP DX CI LI OI BW RE MW J Gives
set_option maxHeartbeats 1000000
set_option maxRecDepth 20000

/-- Node 1 is the one node that there is. -/
def OneNode (bst : Nat) (HQ : Hs) : Prop := ∀ n : Int, 1 ≤ n → n ≤ 255 → ∃ y : Nd, Sp Tryz.prog 34 #[ptr bst 0, i64 n] HQ (fun v H => v = .tuple #[bareV y, .bool (decide (n = 1))] ∧ H = HQ)
theorem Nodes (bst : Nat) (HQ : Hs) (hN : OneNode bst HQ) : Sp Tryz.prog 37 #[ptr bst 0] HQ (fun v H => ∃ Hr, Sl 3 1 v 1 [i64 1] Hr ∧ H = Hr :: HQ) := by
  refine Sp.intro Tryz.func37 rfl rfl rfl fun w K => ?_
  (try refine wk ?_); (repeat (intro b; (try refine wk ?_)))
  refine J.pick [0, 3, 4] rfl ?_
  refine J.loop (α := Nat × Value × Heap) (fun z => [(0, ptr bst 0), (3, z.2.1), (4, i64 (1 + z.1))]) (fun z => [z.2.2] ++ HQ) (fun z => z.1 ≤ 255 ∧ ((z.1 = 0 ∧ z.2.1 = nils ∧ z.2.2 = []) ∨ (1 ≤ z.1 ∧ Sl 3 1 z.2.1 1 [i64 1] z.2.2))) (fun z => 255 - z.1) (0, nils, []) ⟨Nat.zero_le _, .inl ⟨rfl, rfl, rfl⟩⟩ (fun _ _ h => h) rfl ?_
  rintro ⟨k, sv, Hr⟩ ⟨hk, hs⟩
  simp only at hk hs
  by_cases hkn : k < 255
  · have hki : 1 + (k : Int) ≤ 255 := by omega
    obtain ⟨y, hy⟩ := hN (1 + k) (by omega) hki
    (try refine wk ?_); (repeat (intro b; (try refine wk ?_)))
    refine J.perm (H' := HQ ++ [Hr]) List.perm_append_comm ?_
    (refine J.op rfl ?_; refine J.isCallF ?_; refine J.call (H1 := HQ) hy rfl rfl rfl rfl ?_)
    rintro v Hq ⟨rfl, hq⟩; refine J.put rfl ?_
    refine J.perm (H' := [Hr] ++ HQ) (by rw [hq]; exact List.perm_append_comm) ?_
    by_cases h0 : k = 0
    · subst h0
      obtain ⟨rfl, rfl⟩ : sv = nils ∧ Hr = [] := by
        rcases hs with ⟨_, h1, h2⟩ | ⟨h1, _⟩
        · exact ⟨h1, h2⟩
        · omega
      (try refine wk ?_); (repeat (intro b; (try refine wk ?_)))
      refine J.op rfl ?_; refine J.isBuildSlice ?_; refine J.buildSl [i64 (1 + (0 : Nat))] (cs := [i64 1]) rfl rfl rfl rfl rfl (fun v hv => by rw [List.mem_singleton.1 hv]; rfl) rfl rfl rfl ?_
      intro bn
      refine J.front 2 rfl rfl ?_
      refine J.nm ?_
      refine J.op rfl ?_; refine J.isBuiltin ?_; refine J.append (news := [i64 1]) 0 (Sl.nil 3 1) rfl rfl rfl rfl rfl (fun u hu => by rw [List.mem_singleton.1 hu]; rfl) (by simp) (by simp) ⟨by omega, by have : maxLen = 9223372036854775807 := rfl; omega⟩ rfl ?_
      intro v2 Hr2 hs2
      (try refine wk ?_); (repeat (intro b; (try refine wk ?_)))
      refine J.drop 1 ?_
      refine J.drop 1 ?_
      refine J.norm (H' := [Hr2] ++ HQ) rfl ?_
      refine J.pick [0, 3, 4] rfl ?_
      exact J.round (1, v2, Hr2) ⟨by show 1 ≤ 255; omega, .inr ⟨Nat.le_refl 1, hs2⟩⟩ (by show 255 - 1 < 255 - 0; omega) (fun _ _ h => h) rfl
    · have hs' : 1 ≤ k ∧ Sl 3 1 sv 1 [i64 1] Hr := by
        rcases hs with ⟨h1, _⟩ | h1
        · exact absurd h1 h0
        · exact h1
      have hne : ¬ 1 + (k : Int) = 1 := by omega
      (try refine wk ?_); (repeat (intro b; (try refine wk ?_)))
      refine J.drop 0 ?_
      refine J.norm (H' := [Hr] ++ HQ) rfl ?_
      refine J.slot 4 (i64 (1 + (k + 1 : Nat))) rfl (congrArg i64 (by omega)) ?_
      refine J.pick [0, 3, 4] rfl ?_
      exact J.round (k + 1, sv, Hr) ⟨hkn, .inr ⟨by show 1 ≤ k + 1; omega, hs'.2⟩⟩ (by show 255 - (k + 1) < 255 - k; omega) (fun _ _ h => h) rfl
  · obtain rfl : 255 = k := by omega
    have hs' : Sl 3 1 sv 1 [i64 1] Hr := by
      rcases hs with ⟨h1, _⟩ | h1
      · omega
      · exact h1.2
    (try refine wk ?_); (repeat (intro b; (try refine wk ?_)))
    refine J.done_ret (res1 rfl rfl) ?_
    exact ⟨Hr, hs', rfl⟩
theorem First (bst : Nat) (HQ : Hs) (hN : OneNode bst HQ) : Sp Tryz.prog 32 #[ptr bst 0] HQ (fun v H => v = i64 2 ∧ H = HQ) := by
  refine Sp.intro Tryz.func32 rfl rfl rfl fun w K => ?_
  (try refine wk ?_); (repeat (intro b; (try refine wk ?_)))
  refine J.pick [0, 3] rfl ?_
  refine J.loop (α := Nat) (fun k => [(0, ptr bst 0), (3, i64 (1 + k))]) (fun _ => HQ) (fun k => k ≤ 1) (fun k => 1 - k) 0 (Nat.zero_le _) (fun _ _ h => h) rfl (fun k hk => ?_)
  have hki : 1 + (k : Int) ≤ 255 := by omega
  obtain ⟨y, hy⟩ := hN (1 + k) (by omega) hki
  (try refine wk ?_); (repeat (intro b; (try refine wk ?_)))
  refine J.norm (H' := HQ ++ []) (by simp) ?_
  (refine J.op rfl ?_; refine J.isCallF ?_; refine J.call (H1 := HQ) hy rfl rfl rfl rfl ?_)
  rintro v Hq ⟨rfl, hq⟩; refine J.put rfl ?_
  refine J.norm (H' := HQ) (by rw [hq]; simp) ?_
  by_cases h0 : k = 0
  · subst h0
    (try refine wk ?_); (repeat (intro b; (try refine wk ?_)))
    refine J.drop 0 ?_
    refine J.norm (H' := HQ) rfl ?_
    refine J.slot 3 (i64 (1 + (1 : Nat))) rfl rfl ?_
    refine J.pick [0, 3] rfl ?_
    exact J.round 1 (Nat.le_refl 1) (by omega) (fun _ _ h => h) rfl
  · obtain rfl : 1 = k := by omega
    have hne : ¬ 1 + ((1 : Nat) : Int) = 1 := by omega
    (try refine wk ?_); (repeat (intro b; (try refine wk ?_)))
    refine J.drop 0 ?_
    refine J.norm (H' := HQ) rfl ?_
    refine J.done_ret (res1 rfl rfl) ?_
    exact ⟨rfl, rfl⟩
theorem Live (bst : Nat) (HQ : Hs) (hN : OneNode bst HQ) (hH : Sp Tryz.prog 35 #[ptr bst 0, i64 1] HQ (fun v H => v = nils ∧ H = HQ)) : Sp Tryz.prog 20 #[ptr bst 0] HQ (fun v H => v = i64 1 ∧ H = HQ) := by
  refine Sp.intro Tryz.func20 rfl rfl rfl fun w K => ?_
  (try refine wk ?_); (repeat (intro b; (try refine wk ?_)))
  refine J.norm (H' := HQ ++ []) (by simp) ?_
  (refine J.op rfl ?_; refine J.isCallF ?_; refine J.call (H1 := HQ) (Nodes bst HQ hN) rfl rfl rfl rfl ?_)
  rintro v Hq ⟨Hr, hs, hq⟩; refine J.put rfl ?_
  refine J.norm (H' := Hr :: HQ) (by rw [hq]; simp) ?_
  rcases hs with ⟨_, h1, _⟩ | ⟨lb, cap, rest, rfl, rfl, _, _, hc, _⟩
  · omega
  (try refine wk ?_); (repeat (intro b; (try refine wk ?_)))
  refine J.pick [0, 3, 8, 9, 10] rfl ?_
  refine J.loop (α := Nat) (fun k => [(0, ptr bst 0), (3, i64 k), (8, slc lb 0 1 cap), (9, i64 (1 : Nat)), (10, i64 k)]) (fun _ => [(lb, .cells ([i64 1] ++ rest) 3 (0, 0))] :: HQ) (fun k => k ≤ 1) (fun k => 1 - k) 0 (Nat.zero_le _) (fun _ _ h => h) rfl (fun k hk => ?_)
  by_cases h0 : k = 0
  · subst h0
    have hr : (0 : Int) ≤ ((0 : Nat) : Int) ∧ ((0 : Nat) : Int) < ((1 : Nat) : Int) := by omega
    have hlt : ((0 : Nat) : Int) < ((1 : Nat) : Int) := by omega
    (try refine wk ?_); (repeat (intro b; (try refine wk ?_)))
    refine J.perm (H' := HQ ++ [[(lb, .cells ([i64 1] ++ rest) 3 (0, 0))]]) List.perm_append_comm ?_
    (refine J.op rfl ?_; refine J.isCallF ?_; refine J.call (H1 := HQ) hH rfl rfl rfl rfl ?_)
    rintro v Hq ⟨rfl, hq⟩; refine J.put rfl ?_
    refine J.norm (H' := HQ ++ [[(lb, .cells ([i64 1] ++ rest) 3 (0, 0))]]) (by rw [hq]) ?_
    (try refine wk ?_); (repeat (intro b; (try refine wk ?_)))
    refine J.norm (H' := [] ++ (HQ ++ [[(lb, .cells ([i64 1] ++ rest) 3 (0, 0))]])) rfl ?_
    (refine J.op rfl ?_; refine J.isCallF ?_; refine J.call (H1 := []) Inds0 rfl rfl rfl rfl ?_)
    rintro _ _ ⟨rfl, rfl⟩; refine J.put rfl ?_
    refine J.perm (H' := [(lb, .cells ([i64 1] ++ rest) 3 (0, 0))] :: HQ) (List.perm_append_comm (l₁ := [[(lb, HO.cells ([i64 1] ++ rest) 3 (0, 0))]]) (l₂ := HQ)) ?_
    (try refine wk ?_); (repeat (intro b; (try refine wk ?_)))
    refine J.slot 3 (i64 (1 : Nat)) rfl rfl ?_
    refine J.slot 10 (i64 (1 : Nat)) rfl rfl ?_
    refine J.pick [0, 3, 8, 9, 10] rfl ?_
    exact J.round 1 (Nat.le_refl 1) (by omega) (fun _ _ h => h) rfl
  · obtain rfl : 1 = k := by omega
    (try refine wk ?_); (repeat (intro b; (try refine wk ?_)))
    refine J.drop 0 ?_
    refine J.norm (H' := HQ) rfl ?_
    refine J.done_ret (res1 rfl rfl) ?_
    exact ⟨rfl, rfl⟩
end Go.Proofs.YF
namespace Go.Proofs.YF
open Go YE
attribute [local irreducible] CW LW OW XW AW PW HW RW AK HK AP HP DX CI LI OI BW RE MW J Gives
set_option maxHeartbeats 1000000
set_option maxRecDepth 20000

abbrev km (b : Nat) : Value := .map (some b)
theorem one_entry {ν : Type} {encV : ν → Value} {k : Int} {v : ν} {es : List MapEntry} {clk : Nat} (h : MapOK ki encV [(k, v)] es clk) : ∃ e, es = [e] ∧ e.key = ki k ∧ e.val = encV v := by
  have hk := h.keys
  have hv := h.vals
  match es, hk, hv with
  | [e], hk, hv => exact ⟨e, rfl, by simpa using hk, by simpa using hv⟩
  | [], hk, _ => simp at hk
  | _ :: _ :: _, hk, _ => simp at hk
/-- A store's own blocks where node 1 alone was set since the last commit, and nothing stands on the disk. -/
abbrev setH (bst sb tb nb ub gb : Nat) (sc tc nc uc gc bc : Nat) (ne ue : List MapEntry) (st : Sto) : Hs :=
  [[(bst, .cells st.cells 92 (0, 0))], [(sb, .map [] sc)], [(tb, .map [] tc)], [(nb, .map ne nc)], [(ub, .map ue uc)], [(gb, .map [] gc)], [(st.base, .map [] bc)]]
abbrev planH (pb da inn no af fr : Nat) (noc ac fc : Nat) (noe ae fe : List MapEntry) : Hs :=
  [[(pb, .cells (pcells da inn no nils af fr) 159 (0, 0))], [(da, .map [] 0)], [(inn, .map [] 0)], [(no, .map noe noc)], [(af, .map ae ac)], [(fr, .map fe fc)]]
theorem nil_ok {κ ν : Type} {enc : κ → Value} {encV : ν → Value} (c : Nat) : MapOK enc encV ([] : List (κ × ν)) [] c := ⟨rfl, rfl, by simp, by simp, by simp⟩
def kmo (o : Option Nat) : Value := .map o
theorem kmo_ok {am : Nat} {es : List MapEntry} {clk : Nat} (h : MapOK ki kmo [(1, some am)] es clk) : MapOK ki km [(1, am)] es clk := ⟨h.keys, h.vals, h.nodup, h.born, h.lt⟩
theorem J.cutT {P : Program} {Q : Exit → Act → World → Prop} {c : Cx} {S : Slots} {H : Hs} {α : Type} {x y : Code} (Sx : α → Slots) (Hx : α → Hs) (Px : α → Prop) (h2 : ∀ z, Px z → J c (CW P y Q) (Sx z) (Hx z))
    (h1 : J c (CW P x (Exit.then (MW c Sx Hx Px) Q)) S H) : J c (CW P x (Exit.then (CW P y Q) Q)) S H := J.cutTE Sx Hx Px h2 h1
theorem Plan (bst sb tb nb ub gb : Nat) (sc tc nc uc gc bc : Nat) (ne ue : List MapEntry) (d : Nat) (N gen : Int) (sv lg : Value) (num m0 m1 m2 m3 : Int) (base last : Nat) (x : Nd)
    (hnm : MapOK ki Nd.v [(1, x.bare)] ne nc) (hum : MapOK ki Value.bool [(1, true)] ue uc) :
    Sp Tryz.prog 59 #[ptr bst 0] (setH bst sb tb nb ub gb sc tc nc uc gc bc ne ue ⟨d, N, gen, sv, lg, num, m0, m1, m2, m3, base, last, .map (some sb), .map (some tb), .map (some nb), .map (some ub), .map (some gb)⟩)
      (fun v H => ∃ pb da inn no af fr noc ac fc noe ae fe am, v = ptr pb 0 ∧ MapOK ki Nd.v [(1, x.bare)] noe noc ∧ MapOK ki km [(1, am)] ae ac ∧ MapOK ki Value.bool [(1, false)] fe fc ∧
        H = planH pb da inn no af fr noc ac fc noe ae fe ++ [[(am, .map [] 0)]] ++ setH bst sb tb nb ub gb sc tc nc uc gc bc ne ue ⟨d, N, gen, sv, lg, num, m0, m1, m2, m3, base, last, .map (some sb), .map (some tb), .map (some nb), .map (some ub), .map (some gb)⟩) := by
  refine Sp.intro Tryz.func59 rfl rfl rfl fun w K => ?_
  obtain ⟨st, hst⟩ : ∃ st : Sto, st = ⟨d, N, gen, sv, lg, num, m0, m1, m2, m3, base, last, .map (some sb), .map (some tb), .map (some nb), .map (some ub), .map (some gb)⟩ := ⟨_, rfl⟩
  (try refine wk ?_); (repeat (intro b; (try refine wk ?_)))
  (refine J.op rfl ?_; refine J.isCallF ?_; refine J.call (H1 := []) (Empties) rfl rfl rfl rfl ?_)
  rintro _ _ ⟨pb, da, inn, no, af, fr, rfl, rfl⟩; refine J.put rfl ?_; refine J.nm ?_
  (try refine wk ?_); (repeat (intro b; (try refine wk ?_)))
  refine J.any Tryz.mixed [[(pb, .cells (pcells da inn no nils af fr) 159 (0, 0))], [(bst, .cells (Sto.cells ⟨d, N, gen, sv, lg, num, m0, m1, m2, m3, base, last, .map (some sb), .map (some tb), .map (some nb), .map (some ub), .map (some gb)⟩) 92 (0, 0))]] ?_
  refine J.tk 0 ?_
  refine J.tk 1 ?_
  refine J.tk 2 ?_
  refine J.tk 3 ?_
  refine J.tk 4 ?_
  refine J.tk 5 ?_
  refine J.tk 6 ?_
  refine J.tk 7 ?_
  refine J.tk 8 ?_
  refine J.on 9 ?_ -- call
  refine J.front 7 rfl rfl ?_
  refine J.nm ?_
  refine J.isCallF ?_; refine J.call (H1 := [_]) (CopyE da sb sc) rfl rfl rfl rfl ?_
  rintro _ _ rfl; refine J.pn ?_
  refine J.hd ?_
  refine J.al ?_
  (try refine wk ?_); (repeat (intro b; (try refine wk ?_)))
  obtain ⟨e0, rfl, hek, hev⟩ := one_entry hum
  refine J.op rfl ?_; refine J.isRange ?_; refine J.range 10 rfl rfl rfl rfl rfl ?_; intro r
  (try refine wk ?_); (repeat (intro b; (try refine wk ?_)))
  refine J.pick [0, 3, 28] rfl ?_
  refine J.loop (α := Option (Nat × List MapEntry × Nat × List MapEntry × Nat × List MapEntry × Nat)) (fun _ => [(0, ptr bst 0), (3, ptr pb 0), (28, ptr r 0)])
    (fun z => match z with
      | none => [[(r, iter ub uc [])], [(sb, .map [] sc)], [(pb, .cells (pcells da inn no nils af fr) 159 (0, 0))], [(da, .map [] 0)], [(inn, .map [] 0)], [(no, .map [] 0)], [(af, .map [] 0)], [(fr, .map [] 0)], [(bst, .cells (Sto.cells ⟨d, N, gen, sv, lg, num, m0, m1, m2, m3, base, last, .map (some sb), .map (some tb), .map (some nb), .map (some ub), .map (some gb)⟩) 92 (0, 0))], [(tb, .map [] tc)], [(nb, .map ne nc)], [(ub, .map [e0] uc)], [(gb, .map [] gc)], [(base, .map [] bc)]]
      | some (am, noe, noc, ae, ac, fe, fc) => [[(r, iter ub uc [e0])], [(am, .map [] 0)], [(sb, .map [] sc)], [(pb, .cells (pcells da inn no nils af fr) 159 (0, 0))], [(da, .map [] 0)], [(inn, .map [] 0)], [(no, .map noe noc)], [(af, .map ae ac)], [(fr, .map fe fc)], [(bst, .cells (Sto.cells ⟨d, N, gen, sv, lg, num, m0, m1, m2, m3, base, last, .map (some sb), .map (some tb), .map (some nb), .map (some ub), .map (some gb)⟩) 92 (0, 0))], [(tb, .map [] tc)], [(nb, .map ne nc)], [(ub, .map [e0] uc)], [(gb, .map [] gc)], [(base, .map [] bc)]])
    (fun z => match z with
      | none => True
      | some (am, noe, noc, ae, ac, fe, fc) => MapOK ki Nd.v [(1, x.bare)] noe noc ∧ MapOK ki km [(1, am)] ae ac ∧ MapOK ki Value.bool [(1, false)] fe fc)
    (fun z => match z with | none => 1 | some _ => 0) none trivial (fun _ _ h => h) rfl ?_
  rintro (_ | ⟨am, noe, noc, ae, ac, fe, fc⟩) hz
  · skip
    refine J.seq ?_; refine J.region ?_
    refine J.op rfl ?_; refine J.isNext ?_; refine J.next (dn := []) (es := [e0]) (i := 11) (j := 0) (b := ub) (clk := uc) hum.lt rfl rfl rfl rfl rfl rfl (fun _ => rfl) (fun hall => ?_) (fun e he hne => ?_)
    · have := hall e0 (by simp)
      simp at this
    obtain rfl : e = e0 := by simpa using he
    (try refine wk ?_); (repeat (intro b; (try refine wk ?_)))
    refine J.op rfl ?_; refine J.isEntry ?_; refine J.give (Gives.entry (dn := []) (e := e) (es := [e]) (clk := uc) (b := ub) 11 0 hum.born (by simp) rfl rfl rfl rfl) rfl rfl ?_
    (try refine wk ?_); (repeat (intro b; (try refine wk ?_)))
    refine J.slot 4 (i64 1) rfl hek ?_
    refine J.slot 35 (i64 1) rfl hek ?_
    refine J.front 12 rfl rfl ?_
    refine J.front 11 rfl rfl ?_
    refine J.front 10 rfl rfl ?_
    refine J.nm ?_
    refine J.pick [0, 3, 4, 28, 34, 35] rfl ?_
    (refine J.op rfl ?_; refine J.isCallF ?_; refine J.call (H1 := [_, _]) (NodeNow bst nb ⟨d, N, gen, sv, lg, num, m0, m1, m2, m3, base, last, .map (some sb), .map (some tb), .map (some nb), .map (some ub), .map (some gb)⟩ rfl 1 x [(1, x.bare)] ne nc hnm (by simp [aget])) rfl rfl rfl rfl ?_)
    rintro _ _ ⟨rfl, rfl⟩; refine J.pn ?_
    refine J.slot 36 (.tuple #[bareV x, .bool true]) rfl rfl ?_
    (try refine wk ?_); (repeat (intro b; (try refine wk ?_)))
    obtain ⟨b5, rfl⟩ : ∃ q, q = b := ⟨b, rfl⟩
    refine J.cutT (α := Nat × List MapEntry × Nat × List MapEntry × Nat × List MapEntry × Nat) (fun _ => [(0, ptr bst 0), (3, ptr pb 0), (4, i64 1), (28, ptr r 0)])
      (fun z => [[(z.1, .map [] 0)], [(bst, .cells (Sto.cells ⟨d, N, gen, sv, lg, num, m0, m1, m2, m3, base, last, .map (some sb), .map (some tb), .map (some nb), .map (some ub), .map (some gb)⟩) 92 (0, 0))], [(nb, .map ne nc)], [(gb, .map [] gc)], [(r, iter ub uc [e])], [(sb, .map [] sc)], [(pb, .cells (pcells da inn no nils af fr) 159 (0, 0))], [(da, .map [] 0)], [(inn, .map [] 0)], [(no, .map z.2.1 z.2.2.1)], [(af, .map z.2.2.2.1 z.2.2.2.2.1)], [(fr, .map z.2.2.2.2.2.1 z.2.2.2.2.2.2)], [(tb, .map [] tc)], [(ub, .map [e] uc)], [(base, .map [] bc)]])
      (fun z => MapOK ki Nd.v [(1, x.bare)] z.2.1 z.2.2.1 ∧ MapOK ki km [(1, z.1)] z.2.2.2.1 z.2.2.2.2.1 ∧ MapOK ki Value.bool [(1, false)] z.2.2.2.2.2.1 z.2.2.2.2.2.2) ?_ ?_
    · rintro ⟨am, noe, noc, ae, ac, fe, fc⟩ hz
      (try refine wk ?_); (repeat (intro b; (try refine wk ?_)))
      refine J.front 14 rfl rfl ?_
      refine J.front 6 rfl rfl ?_
      refine J.front 3 rfl rfl ?_
      refine J.nm ?_
      (refine J.op rfl ?_; refine J.isCallF ?_; refine J.call (H1 := [_, _, _]) (Has0 bst sb sc ⟨d, N, gen, sv, lg, num, m0, m1, m2, m3, base, last, .map (some sb), .map (some tb), .map (some nb), .map (some ub), .map (some gb)⟩ rfl 1 [] [] bc (nil_ok bc) rfl) rfl rfl rfl rfl ?_)
      rintro _ _ ⟨rfl, rfl⟩; refine J.pn ?_
      (try refine wk ?_); (repeat (intro b; (try refine wk ?_)))
      refine J.pick [0, 3, 28, 84, 85] rfl ?_
      refine J.loop (α := Unit) (fun _ => _) (fun _ => _) (fun _ => True) (fun _ => 0) () trivial (fun _ _ h => h) rfl (fun _ _ => ?_)
      (try refine wk ?_); (repeat (intro b; (try refine wk ?_)))
      refine J.front 2 rfl rfl ?_
      refine J.front 5 rfl rfl ?_
      refine J.front 14 rfl rfl ?_
      refine J.front 6 rfl rfl ?_
      refine J.front 14 rfl rfl ?_
      refine J.front 5 rfl rfl ?_
      refine J.front 14 rfl rfl ?_
      refine J.front 14 rfl rfl ?_
      refine J.front 14 rfl rfl ?_
      refine J.front 14 rfl rfl ?_
      refine J.front 14 rfl rfl ?_
      refine J.front 14 rfl rfl ?_
      refine J.front 12 rfl rfl ?_
      refine J.front 13 rfl rfl ?_
      refine J.front 14 rfl rfl ?_
      refine J.nm ?_
      refine J.pick [0, 3, 28] rfl ?_
      exact J.round (some (am, noe, noc, ae, ac, fe, fc)) hz (by show 0 < 1; omega) (fun _ _ h => h) rfl
    skip
    refine J.any Tryz.mixed [[(pb, .cells (pcells da inn no nils af fr) 159 (0, 0))], [(bst, .cells (Sto.cells ⟨d, N, gen, sv, lg, num, m0, m1, m2, m3, base, last, .map (some sb), .map (some tb), .map (some nb), .map (some ub), .map (some gb)⟩) 92 (0, 0))], [(b5, .cells (bareC x) 31 (0, 0))], [(gb, .map [] gc)]] ?_
    refine J.tk 0 ?_
    refine J.tk 1 ?_
    refine J.tk 2 ?_
    (first | refine J.tk 3 ?_ | (refine J.tkO 3 ?_; first | refine J.giveT (Gives.look (enc := ki) (encV := Value.bool) 3 keyI (nil_ok gc) rfl rfl rfl rfl) rfl rfl ?_ | refine J.giveT (Gives.loadA 2 rfl rfl rfl rfl rfl) rfl rfl ?_))
    refine J.tk 4 ?_
    refine J.tk 5 ?_
    refine J.tk 6 ?_
    refine J.tk 7 ?_
    (first | refine J.tk 8 ?_ | (refine J.tkO 8 ?_; first | refine J.giveT (Gives.look (enc := ki) (encV := Value.bool) 3 keyI (nil_ok gc) rfl rfl rfl rfl) rfl rfl ?_ | refine J.giveT (Gives.loadA 2 rfl rfl rfl rfl rfl) rfl rfl ?_))
    refine J.tk 9 ?_
    refine J.tk 10 ?_
    refine J.tk 11 ?_
    refine J.tk 12 ?_
    (first | refine J.tk 13 ?_ | (refine J.tkO 13 ?_; first | refine J.giveT (Gives.look (enc := ki) (encV := Value.bool) 3 keyI (nil_ok gc) rfl rfl rfl rfl) rfl rfl ?_ | refine J.giveT (Gives.loadA 2 rfl rfl rfl rfl rfl) rfl rfl ?_))
    refine J.tk 14 ?_
    (first | refine J.tk 15 ?_ | (refine J.tkO 15 ?_; first | refine J.giveT (Gives.look (enc := ki) (encV := Value.bool) 3 keyI (nil_ok gc) rfl rfl rfl rfl) rfl rfl ?_ | refine J.giveT (Gives.loadA 2 rfl rfl rfl rfl rfl) rfl rfl ?_))
    refine J.tk 17 ?_
    refine J.tk 18 ?_
    refine J.tk 19 ?_
    refine J.tk 20 ?_
    (first | refine J.tk 21 ?_ | (refine J.tkO 21 ?_; first | refine J.giveT (Gives.look (enc := ki) (encV := Value.bool) 3 keyI (nil_ok gc) rfl rfl rfl rfl) rfl rfl ?_ | refine J.giveT (Gives.loadA 2 rfl rfl rfl rfl rfl) rfl rfl ?_))
    refine J.tk 22 ?_
    (first | refine J.tk 23 ?_ | (refine J.tkO 23 ?_; first | refine J.giveT (Gives.look (enc := ki) (encV := Value.bool) 3 keyI (nil_ok gc) rfl rfl rfl rfl) rfl rfl ?_ | refine J.giveT (Gives.loadA 2 rfl rfl rfl rfl rfl) rfl rfl ?_))
    -- READY: [(16, 'makeMap', None, 'plan.go:65'), (24, 'mapEntry', None, 'plan.go:65')]
    refine J.each [16, 24] (by kernel_rfl) (by simp) (fun i hi => ?_)
    simp only [List.mem_cons, List.not_mem_nil, or_false] at hi
    rcases hi with rfl | rfl
    · skip
      refine J.wpOp rfl rfl ?_
      refine J.isMakeMap ?_; refine J.makeMap rfl rfl rfl ?_; intro am
      refine J.hd ?_
      refine J.on 24 ?_ -- mapEntry
      refine J.isMapEntry ?_; refine J.mapEntry (enc := ki) (encV := Nd.v) (m := []) (k := 1) 10 nd0 rfl keyI (nil_ok 0) rfl rfl rfl rfl rfl rfl (fun _ _ => rfl) ?_
      intro e24 c24 s24 g24 q24
      refine J.nm ?_
      refine J.hd ?_
      refine J.tk 25 ?_
      refine J.on 26 ?_ -- entryStore
      refine J.isEntryStore ?_; refine J.entryStore (enc := ki) (encV := Nd.v) (k := 1) (v := x.bare) 10 g24 q24 rfl rfl rfl rfl rfl rfl (fun _ _ => rfl) ?_
      intro e26 g26
      rw [aset_aset] at g26
      refine J.nm ?_
      refine J.hd ?_
      refine J.on 27 ?_ -- mapEntry
      refine J.isMapEntry ?_; refine J.mapEntry (enc := ki) (encV := kmo) (m := []) (k := 1) 11 none rfl keyI (nil_ok 0) rfl rfl rfl rfl rfl rfl (fun _ _ => rfl) ?_
      intro e27 c27 s27 g27 q27
      refine J.nm ?_
      refine J.hd ?_
      refine J.tk 28 ?_
      refine J.on 29 ?_ -- entryStore
      refine J.isEntryStore ?_; refine J.entryStore (enc := ki) (encV := kmo) (k := 1) (v := (some am)) 11 g27 q27 rfl rfl rfl rfl rfl rfl (fun _ _ => rfl) ?_
      intro e29 g29
      rw [aset_aset] at g29
      refine J.nm ?_
      refine J.hd ?_
      refine J.on 30 ?_ -- mapEntry
      refine J.isMapEntry ?_; refine J.mapEntry (enc := ki) (encV := Value.bool) (m := []) (k := 1) 12 false rfl keyI (nil_ok 0) rfl rfl rfl rfl rfl rfl (fun _ _ => rfl) ?_
      intro e30 c30 s30 g30 q30
      refine J.nm ?_
      refine J.hd ?_
      refine J.tk 31 ?_
      refine J.on 32 ?_ -- entryStore
      refine J.isEntryStore ?_; refine J.entryStore (enc := ki) (encV := Value.bool) (k := 1) (v := false) 12 g30 q30 rfl rfl rfl rfl rfl rfl (fun _ _ => rfl) ?_
      intro e32 g32
      rw [aset_aset] at g32
      refine J.nm ?_
      refine J.hd ?_
      refine J.al ?_
      refine J.thenN ?_
      refine J.pick [0, 3, 4, 28] rfl ?_
      refine J.drop 1 ?_
      refine J.mid (am, e26, c24, e29, c27, e32, c30) ⟨g26, kmo_ok g29, g32⟩ (fun _ _ h => h) rfl
    · skip
      refine J.wpOp rfl rfl ?_
      refine J.isMapEntry ?_; refine J.mapEntry (enc := ki) (encV := Nd.v) (m := []) (k := 1) 9 nd0 rfl keyI (nil_ok 0) rfl rfl rfl rfl rfl rfl (fun _ _ => rfl) ?_
      intro e24 c24 s24 g24 q24
      refine J.nm ?_
      refine J.hd ?_
      refine J.tk 25 ?_
      -- READY: [(16, 'makeMap', None, 'plan.go:65'), (26, 'entryStore', None, 'plan.go:65')]
      refine J.each [16, 26] (by kernel_rfl) (by simp) (fun i hi => ?_)
      simp only [List.mem_cons, List.not_mem_nil, or_false] at hi
      rcases hi with rfl | rfl
      · skip
        refine J.wpOp rfl rfl ?_
        refine J.isMakeMap ?_; refine J.makeMap rfl rfl rfl ?_; intro am
        refine J.hd ?_
        refine J.on 26 ?_ -- entryStore
        refine J.isEntryStore ?_; refine J.entryStore (enc := ki) (encV := Nd.v) (k := 1) (v := x.bare) 10 g24 q24 rfl rfl rfl rfl rfl rfl (fun _ _ => rfl) ?_
        intro e26 g26
        rw [aset_aset] at g26
        refine J.nm ?_
        refine J.hd ?_
        refine J.on 27 ?_ -- mapEntry
        refine J.isMapEntry ?_; refine J.mapEntry (enc := ki) (encV := kmo) (m := []) (k := 1) 11 none rfl keyI (nil_ok 0) rfl rfl rfl rfl rfl rfl (fun _ _ => rfl) ?_
        intro e27 c27 s27 g27 q27
        refine J.nm ?_
        refine J.hd ?_
        refine J.tk 28 ?_
        refine J.on 29 ?_ -- entryStore
        refine J.isEntryStore ?_; refine J.entryStore (enc := ki) (encV := kmo) (k := 1) (v := (some am)) 11 g27 q27 rfl rfl rfl rfl rfl rfl (fun _ _ => rfl) ?_
        intro e29 g29
        rw [aset_aset] at g29
        refine J.nm ?_
        refine J.hd ?_
        refine J.on 30 ?_ -- mapEntry
        refine J.isMapEntry ?_; refine J.mapEntry (enc := ki) (encV := Value.bool) (m := []) (k := 1) 12 false rfl keyI (nil_ok 0) rfl rfl rfl rfl rfl rfl (fun _ _ => rfl) ?_
        intro e30 c30 s30 g30 q30
        refine J.nm ?_
        refine J.hd ?_
        refine J.tk 31 ?_
        refine J.on 32 ?_ -- entryStore
        refine J.isEntryStore ?_; refine J.entryStore (enc := ki) (encV := Value.bool) (k := 1) (v := false) 12 g30 q30 rfl rfl rfl rfl rfl rfl (fun _ _ => rfl) ?_
        intro e32 g32
        rw [aset_aset] at g32
        refine J.nm ?_
        refine J.hd ?_
        refine J.al ?_
        refine J.thenN ?_
        refine J.pick [0, 3, 4, 28] rfl ?_
        refine J.drop 1 ?_
        refine J.mid (am, e26, c24, e29, c27, e32, c30) ⟨g26, kmo_ok g29, g32⟩ (fun _ _ h => h) rfl
      · skip
        refine J.wpOp rfl rfl ?_
        refine J.isEntryStore ?_; refine J.entryStore (enc := ki) (encV := Nd.v) (k := 1) (v := x.bare) 9 g24 q24 rfl rfl rfl rfl rfl rfl (fun _ _ => rfl) ?_
        intro e26 g26
        rw [aset_aset] at g26
        refine J.nm ?_
        refine J.hd ?_
        -- READY: [(16, 'makeMap', None, 'plan.go:65'), (27, 'mapEntry', None, 'plan.go:65')]
        refine J.each [16, 27] (by kernel_rfl) (by simp) (fun i hi => ?_)
        simp only [List.mem_cons, List.not_mem_nil, or_false] at hi
        rcases hi with rfl | rfl
        · skip
          refine J.wpOp rfl rfl ?_
          refine J.isMakeMap ?_; refine J.makeMap rfl rfl rfl ?_; intro am
          refine J.hd ?_
          refine J.on 27 ?_ -- mapEntry
          refine J.isMapEntry ?_; refine J.mapEntry (enc := ki) (encV := kmo) (m := []) (k := 1) 11 none rfl keyI (nil_ok 0) rfl rfl rfl rfl rfl rfl (fun _ _ => rfl) ?_
          intro e27 c27 s27 g27 q27
          refine J.nm ?_
          refine J.hd ?_
          refine J.tk 28 ?_
          refine J.on 29 ?_ -- entryStore
          refine J.isEntryStore ?_; refine J.entryStore (enc := ki) (encV := kmo) (k := 1) (v := (some am)) 11 g27 q27 rfl rfl rfl rfl rfl rfl (fun _ _ => rfl) ?_
          intro e29 g29
          rw [aset_aset] at g29
          refine J.nm ?_
          refine J.hd ?_
          refine J.on 30 ?_ -- mapEntry
          refine J.isMapEntry ?_; refine J.mapEntry (enc := ki) (encV := Value.bool) (m := []) (k := 1) 12 false rfl keyI (nil_ok 0) rfl rfl rfl rfl rfl rfl (fun _ _ => rfl) ?_
          intro e30 c30 s30 g30 q30
          refine J.nm ?_
          refine J.hd ?_
          refine J.tk 31 ?_
          refine J.on 32 ?_ -- entryStore
          refine J.isEntryStore ?_; refine J.entryStore (enc := ki) (encV := Value.bool) (k := 1) (v := false) 12 g30 q30 rfl rfl rfl rfl rfl rfl (fun _ _ => rfl) ?_
          intro e32 g32
          rw [aset_aset] at g32
          refine J.nm ?_
          refine J.hd ?_
          refine J.al ?_
          refine J.thenN ?_
          refine J.pick [0, 3, 4, 28] rfl ?_
          refine J.drop 1 ?_
          refine J.mid (am, e26, c24, e29, c27, e32, c30) ⟨g26, kmo_ok g29, g32⟩ (fun _ _ h => h) rfl
        · skip
          refine J.wpOp rfl rfl ?_
          refine J.isMapEntry ?_; refine J.mapEntry (enc := ki) (encV := kmo) (m := []) (k := 1) 10 none rfl keyI (nil_ok 0) rfl rfl rfl rfl rfl rfl (fun _ _ => rfl) ?_
          intro e27 c27 s27 g27 q27
          refine J.nm ?_
          refine J.hd ?_
          refine J.tk 28 ?_
          refine J.on 16 ?_ -- makeMap
          refine J.isMakeMap ?_; refine J.makeMap rfl rfl rfl ?_; intro am
          refine J.hd ?_
          refine J.on 29 ?_ -- entryStore
          refine J.isEntryStore ?_; refine J.entryStore (enc := ki) (encV := kmo) (k := 1) (v := (some am)) 11 g27 q27 rfl rfl rfl rfl rfl rfl (fun _ _ => rfl) ?_
          intro e29 g29
          rw [aset_aset] at g29
          refine J.nm ?_
          refine J.hd ?_
          refine J.on 30 ?_ -- mapEntry
          refine J.isMapEntry ?_; refine J.mapEntry (enc := ki) (encV := Value.bool) (m := []) (k := 1) 12 false rfl keyI (nil_ok 0) rfl rfl rfl rfl rfl rfl (fun _ _ => rfl) ?_
          intro e30 c30 s30 g30 q30
          refine J.nm ?_
          refine J.hd ?_
          refine J.tk 31 ?_
          refine J.on 32 ?_ -- entryStore
          refine J.isEntryStore ?_; refine J.entryStore (enc := ki) (encV := Value.bool) (k := 1) (v := false) 12 g30 q30 rfl rfl rfl rfl rfl rfl (fun _ _ => rfl) ?_
          intro e32 g32
          rw [aset_aset] at g32
          refine J.nm ?_
          refine J.hd ?_
          refine J.al ?_
          refine J.thenN ?_
          refine J.pick [0, 3, 4, 28] rfl ?_
          refine J.drop 1 ?_
          refine J.mid (am, e26, c24, e29, c27, e32, c30) ⟨g26, kmo_ok g29, g32⟩ (fun _ _ h => h) rfl
  · skip
    refine J.seq ?_; refine J.region ?_
    refine J.op rfl ?_; refine J.isNext ?_; refine J.next (dn := [e0]) (es := [e0]) (i := 12) (j := 0) (b := ub) (clk := uc) hum.lt rfl rfl rfl rfl rfl rfl (fun _ => rfl) (fun hall => ?_) (fun e he hne => (hne (List.mem_map.2 ⟨e0, List.mem_singleton.2 rfl, by rw [List.mem_singleton.1 he]⟩)).elim)
    (try refine wk ?_); (repeat (intro b; (try refine wk ?_)))
    refine J.op rfl ?_; refine J.isRange ?_; refine J.range 10 rfl rfl rfl rfl rfl ?_; intro r
    (try refine wk ?_); (repeat (intro b; (try refine wk ?_)))
    refine J.pick [0, 3, 106] rfl ?_
    refine J.loop (α := Unit) (fun _ => _) (fun _ => _) (fun _ => True) (fun _ => 0) () trivial (fun _ _ h => h) rfl (fun _ _ => ?_)
    (try refine wk ?_); (repeat (intro b; (try refine wk ?_)))
    refine J.op rfl ?_; refine J.isNext ?_; refine J.next (dn := []) (es := []) (i := 11) (j := 0) (by simp) rfl rfl rfl rfl rfl rfl (fun _ => rfl) (fun _ => ?_) (fun e he => by cases he)
    (try refine wk ?_); (repeat (intro b; (try refine wk ?_)))
    refine J.drop 0 ?_
    refine J.nm ?_
    (try refine wk ?_); (repeat (intro b; (try refine wk ?_)))
    (refine J.op rfl ?_; refine J.isCallF ?_; refine J.call (H1 := []) (SortS none 0 0 (by omega)) rfl rfl rfl rfl ?_)
    rintro _ _ rfl; refine J.pn ?_
    (try refine wk ?_); (repeat (intro b; (try refine wk ?_)))
    refine J.front 14 rfl rfl ?_
    refine J.front 14 rfl rfl ?_
    refine J.front 14 rfl rfl ?_
    refine J.front 14 rfl rfl ?_
    refine J.front 14 rfl rfl ?_
    refine J.front 7 rfl rfl ?_
    refine J.front 14 rfl rfl ?_
    refine J.front 8 rfl rfl ?_
    refine J.front 14 rfl rfl ?_
    refine J.front 14 rfl rfl ?_
    refine J.front 14 rfl rfl ?_
    refine J.front 14 rfl rfl ?_
    refine J.front 14 rfl rfl ?_
    refine J.front 14 rfl rfl ?_
    refine J.nm ?_
    refine J.first 14 rfl ?_
    refine J.done_ret (res1 rfl rfl) ?_
    exact ⟨pb, da, inn, no, af, fr, noc, ac, fc, noe, ae, fe, am, rfl, hz.1, hz.2.1, hz.2.2, rfl⟩
end Go.Proofs.YF
namespace Go.Proofs.YF
open Go YE
attribute [local irreducible] CW LW OW XW AW PW HW RW AK HK AP HP DX CI LI OI BW RE MW J Gives
set_option maxHeartbeats 1000000
set_option maxRecDepth 20000

def segOf (s : Int) : Int := (s - 48) / 32
def addL (ll : List (Int × Int)) (s : Int) : List (Int × Int) := aset ll (segOf s) (((aget ll (segOf s)).getD 0) + 1)
theorem AddSec (b1 b3 bst lb : Nat) (st : Sto) (N : Nat) (hN : 8 ≤ N ∧ N ≤ 500) (hst : st.N = N) (s : Int) (hs : 48 ≤ s ∧ s < 48 + N * 32) (ll : List (Int × Int)) (le : List MapEntry) (lc : Nat) (hm : MapOK ki ki ll le lc) (hb : 0 ≤ (aget ll (segOf s)).getD 0 ∧ (aget ll (segOf s)).getD 0 ≤ 1000000) :
    Sp Tryz.prog 144 #[i64 s, ptr b1 0, ptr b3 0] [[(b1, .cells [ptr bst 0] 24 (0, 0))], [(b3, .cells [.map (some lb)] 90 (0, 0))], [(bst, .cells st.cells 92 (0, 0))], [(lb, .map le lc)]]
      (fun _ H => ∃ le' lc', MapOK ki ki (addL ll s) le' lc' ∧ H = [[(b1, .cells [ptr bst 0] 24 (0, 0))], [(b3, .cells [.map (some lb)] 90 (0, 0))], [(bst, .cells st.cells 92 (0, 0))], [(lb, .map le' lc')]]) := by
  refine Sp.intro Tryz.func144 rfl rfl rfl fun w K => ?_
  obtain ⟨d, N', gen', sv, lg, num, m0, m1, m2, m3, base, last, vs, vt, vn, vu, vg⟩ := st
  simp only at hst
  subst hst
  (try refine wk ?_); (repeat (intro b; (try refine wk ?_)))
  (refine J.op rfl ?_; refine J.isCallF ?_; refine J.call (At N s (by omega) (by omega) (by omega) (by omega)) rfl rfl rfl rfl ?_; rintro _ _ ⟨rfl, rfl⟩; refine J.pn ?_)
  refine J.slot 13 (.tuple #[i64 (segOf s), i64 ((s - 48) % 32), .bool true]) rfl (by unfold atv; rw [if_pos (by omega)]; rfl) ?_
  (try refine wk ?_); (repeat (intro b; (try refine wk ?_)))
  refine J.op rfl ?_; refine J.isLookup ?_; refine J.give (Gives.look (enc := ki) (encV := ki) 3 keyI hm rfl rfl rfl rfl) rfl rfl ?_
  have hv : ((aget ll (segOf s)).map ki).getD (i64 0) = i64 ((aget ll (segOf s)).getD 0) := by cases aget ll (segOf s) <;> rfl
  refine J.slot 20 (i64 ((aget ll (segOf s)).getD 0)) rfl hv ?_
  (try refine wk ?_); (repeat (intro b; (try refine wk ?_)))
  refine J.op rfl ?_; refine J.isMapUpdate ?_; refine J.mapUpdate (enc := ki) (encV := ki) (k := segOf s) (v := (aget ll (segOf s)).getD 0 + 1) 3 keyI hm rfl rfl rfl rfl rfl rfl (fun _ _ => rfl) ?_
  intro le' lc' hm'
  (try refine wk ?_); (repeat (intro b; (try refine wk ?_)))
  refine J.done (fun a w _ _ => res0 rfl a.tmps w) ?_
  exact ⟨le', lc', hm', rfl⟩
theorem Lives0 (bst : Nat) (st : Sto) (bc : Nat) : Sp Tryz.prog 96 #[ptr bst 0] [[(bst, .cells st.cells 92 (0, 0))], [(st.base, .map [] bc)]]
    (fun v H => ∃ lb le lc, v = .map (some lb) ∧ MapOK ki ki [] le lc ∧ H = [[(lb, .map le lc)], [(bst, .cells st.cells 92 (0, 0))], [(st.base, .map [] bc)]]) := by
  refine Sp.intro Tryz.func96 rfl rfl rfl fun w K => ?_
  obtain ⟨d, N', gen', sv, lg, num, m0, m1, m2, m3, base, last, vs, vt, vn, vu, vg⟩ := st
  refine J.seq ?_; refine J.region ?_; refine J.op rfl ?_
  (refine wo ?_; (try intro b))
  obtain ⟨b1, rfl⟩ : ∃ q, q = b := ⟨b, rfl⟩
  refine J.op rfl ?_
  (refine wo ?_; (try intro b))
  refine J.nil ?_; refine J.thenN ?_; refine J.seq ?_; refine J.region ?_; refine J.op rfl ?_
  (refine wo ?_; (try intro b))
  obtain ⟨lb, rfl⟩ : ∃ q, q = b := ⟨b, rfl⟩
  (try refine wk ?_); (repeat (intro b; (try refine wk ?_)))
  refine J.op rfl ?_; refine J.isRange ?_; refine J.range 4 rfl rfl rfl rfl rfl ?_; intro r
  (try refine wk ?_); (repeat (intro b; (try refine wk ?_)))
  refine J.pick [3, 17] rfl ?_
  refine J.loop (α := Unit) (fun _ => _) (fun _ => _) (fun _ => True) (fun _ => 0) () trivial (fun _ _ h => h) rfl (fun _ _ => ?_)
  (try refine wk ?_); (repeat (intro b; (try refine wk ?_)))
  refine J.op rfl ?_; refine J.isNext ?_; refine J.next (dn := []) (es := []) (i := 5) (j := 0) (by simp) rfl rfl rfl rfl rfl rfl (fun _ => rfl) (fun _ => ?_) (fun e he => by cases he)
  (try refine wk ?_); (repeat (intro b; (try refine wk ?_)))
  refine J.drop 0 ?_
  refine J.nm ?_
  (try refine wk ?_); (repeat (intro b; (try refine wk ?_)))
  refine J.front 4 rfl rfl ?_
  refine J.front 4 rfl rfl ?_
  refine J.front 3 rfl rfl ?_
  refine J.nm ?_
  refine J.first 3 rfl ?_
  refine J.done_ret (res1 rfl rfl) ?_
  exact ⟨lb, [], 0, rfl, nil_ok 0, rfl⟩
theorem Lives1 (bst p bm im bmc imc : Nat) (st : Sto) (N : Nat) (hN : 8 ≤ N ∧ N ≤ 500) (hst : st.N = N) (x : Nd) (sec : Int) (hs : 48 ≤ sec ∧ sec < 48 + N * 32) (be : List MapEntry) (bc : Nat) (hbm : MapOK ki kp [(1, p)] be bc) :
    Sp Tryz.prog 96 #[ptr bst 0] [[(bst, .cells st.cells 92 (0, 0))], [(st.base, .map be bc)], [(p, .cells (stcells x sec bm im) 108 (0, 0))], [(bm, .map [] bmc)], [(im, .map [] imc)]]
    (fun v H => ∃ lb le lc, v = .map (some lb) ∧ MapOK ki ki [(segOf sec, 1)] le lc ∧ H = [[(lb, .map le lc)], [(bst, .cells st.cells 92 (0, 0))], [(st.base, .map be bc)], [(p, .cells (stcells x sec bm im) 108 (0, 0))], [(bm, .map [] bmc)], [(im, .map [] imc)]]) := by
  refine Sp.intro Tryz.func96 rfl rfl rfl fun w K => ?_
  obtain ⟨e0, rfl, hek, hev⟩ := one_entry hbm
  have hst0 := hst
  refine J.seq ?_; refine J.region ?_; refine J.op rfl ?_
  (refine wo ?_; (try intro b))
  obtain ⟨b1, rfl⟩ : ∃ q, q = b := ⟨b, rfl⟩
  refine J.op rfl ?_
  (refine wo ?_; (try intro b))
  refine J.nil ?_; refine J.thenN ?_; refine J.seq ?_; refine J.region ?_; refine J.op rfl ?_
  (refine wo ?_; (try intro b))
  obtain ⟨lb, rfl⟩ : ∃ q, q = b := ⟨b, rfl⟩
  (try refine wk ?_); (repeat (intro b; (try refine wk ?_)))
  refine J.op rfl ?_; refine J.isRange ?_; refine J.range 4 rfl rfl rfl rfl rfl ?_; intro r
  (try refine wk ?_); (repeat (intro b; (try refine wk ?_)))
  refine J.pick [3, 4, 17] rfl ?_
  refine J.loop (α := Option (List MapEntry × Nat)) (fun _ => [(3, ptr b 0), (4, .func (.func 144) #[] #[ptr b1 0, ptr b 0]), (17, ptr r 0)])
    (fun z => match z with
      | none => [[(r, iter st.base bc [])], [(b, .cells [.map (some lb)] 90 (0, 0))], [(lb, .map [] 0)], [(b1, .cells [ptr bst 0] 24 (0, 0))], [(bst, .cells st.cells 92 (0, 0))], [(st.base, .map [e0] bc)], [(p, .cells (stcells x sec bm im) 108 (0, 0))], [(bm, .map [] bmc)], [(im, .map [] imc)]]
      | some (le, lc) => [[(r, iter st.base bc [e0])], [(b, .cells [.map (some lb)] 90 (0, 0))], [(lb, .map le lc)], [(b1, .cells [ptr bst 0] 24 (0, 0))], [(bst, .cells st.cells 92 (0, 0))], [(st.base, .map [e0] bc)], [(p, .cells (stcells x sec bm im) 108 (0, 0))], [(bm, .map [] bmc)], [(im, .map [] imc)]])
    (fun z => match z with | none => True | some (le, lc) => MapOK ki ki [(segOf sec, 1)] le lc) (fun z => match z with | none => 1 | some _ => 0) none trivial (fun _ _ h => h) rfl ?_
  rintro (_ | ⟨le, lc⟩) hz
  · skip
    refine J.seq ?_; refine J.region ?_
    refine J.op rfl ?_; refine J.isNext ?_; refine J.next (dn := []) (es := [e0]) (i := 5) (j := 0) (b := st.base) (clk := bc) hbm.lt rfl rfl rfl rfl rfl rfl (fun _ => rfl) (fun hall => ?_) (fun e he hne => ?_)
    · have := hall e0 (by simp)
      simp at this
    obtain rfl : e = e0 := by simpa using he
    (try refine wk ?_); (repeat (intro b; (try refine wk ?_)))
    refine J.op rfl ?_; refine J.isEntry ?_; refine J.give (Gives.entry (dn := []) (e := e) (es := [e]) (clk := bc) (b := st.base) 5 0 hbm.born (by simp) rfl rfl rfl rfl) rfl rfl ?_
    refine J.op rfl ?_
    (refine wo ?_; (try intro b))
    refine J.slot 21 (ptr p 0) rfl hev ?_
    (try refine wk ?_); (repeat (intro b; (try refine wk ?_)))
    refine J.front 2 rfl rfl ?_
    refine J.front 4 rfl rfl ?_
    refine J.front 3 rfl rfl ?_
    refine J.front 4 rfl rfl ?_
    refine J.nm ?_
    (refine J.op rfl ?_; refine J.isCallV ?_; refine J.callV (H1 := [_, _, _, _]) (AddSec b1 b bst lb st N hN hst sec hs [] [] 0 (nil_ok 0) (by simp [aget])) rfl rfl rfl rfl rfl rfl ?_)
    rintro _ _ ⟨le, lc, hl, rfl⟩; refine J.put rfl ?_; refine J.nm ?_
    (try refine wk ?_); (repeat (intro b; (try refine wk ?_)))
    refine J.op rfl ?_; refine J.isRange ?_; refine J.range 7 rfl rfl rfl rfl rfl ?_; intro r
    (try refine wk ?_); (repeat (intro b; (try refine wk ?_)))
    refine J.pick [3, 4, 6, 17, 32] rfl ?_
    refine J.loop (α := Unit) (fun _ => _) (fun _ => _) (fun _ => True) (fun _ => 0) () trivial (fun _ _ h => h) rfl (fun _ _ => ?_)
    (try refine wk ?_); (repeat (intro b; (try refine wk ?_)))
    refine J.op rfl ?_; refine J.isNext ?_; refine J.next (dn := []) (es := []) (i := 8) (j := 0) (by simp) rfl rfl rfl rfl rfl rfl (fun _ => rfl) (fun _ => ?_) (fun e he => by cases he)
    (try refine wk ?_); (repeat (intro b; (try refine wk ?_)))
    refine J.drop 0 ?_
    refine J.nm ?_
    refine J.op rfl ?_; refine J.isRange ?_; refine J.range 8 rfl rfl rfl rfl rfl ?_; intro r
    (try refine wk ?_); (repeat (intro b; (try refine wk ?_)))
    refine J.pick [3, 4, 6, 17, 44] rfl ?_
    refine J.loop (α := Unit) (fun _ => _) (fun _ => _) (fun _ => True) (fun _ => 0) () trivial (fun _ _ h => h) rfl (fun _ _ => ?_)
    (try refine wk ?_); (repeat (intro b; (try refine wk ?_)))
    refine J.op rfl ?_; refine J.isNext ?_; refine J.next (dn := []) (es := []) (i := 9) (j := 0) (by simp) rfl rfl rfl rfl rfl rfl (fun _ => rfl) (fun _ => ?_) (fun e he => by cases he)
    (try refine wk ?_); (repeat (intro b; (try refine wk ?_)))
    refine J.drop 0 ?_
    refine J.nm ?_
    refine J.front 8 rfl rfl ?_
    refine J.front 8 rfl rfl ?_
    refine J.front 8 rfl rfl ?_
    refine J.front 8 rfl rfl ?_
    refine J.front 6 rfl rfl ?_
    refine J.front 5 rfl rfl ?_
    refine J.front 7 rfl rfl ?_
    refine J.front 7 rfl rfl ?_
    refine J.front 8 rfl rfl ?_
    refine J.nm ?_
    refine J.pick [3, 4, 17] rfl ?_
    exact J.round (some (le, lc)) hl (by show 0 < 1; omega) (fun _ _ h => h) rfl
  · skip
    refine J.seq ?_; refine J.region ?_
    refine J.op rfl ?_; refine J.isNext ?_; refine J.next (dn := [e0]) (es := [e0]) (i := 5) (j := 0) (b := st.base) (clk := bc) hbm.lt rfl rfl rfl rfl rfl rfl (fun _ => rfl) (fun hall => ?_) (fun e he hne => (hne (List.mem_map.2 ⟨e0, List.mem_singleton.2 rfl, by rw [List.mem_singleton.1 he]⟩)).elim)
    (try refine wk ?_); (repeat (intro b; (try refine wk ?_)))
    refine J.front 8 rfl rfl ?_
    refine J.front 8 rfl rfl ?_
    refine J.front 8 rfl rfl ?_
    refine J.front 8 rfl rfl ?_
    refine J.front 8 rfl rfl ?_
    refine J.front 7 rfl rfl ?_
    refine J.nm ?_
    refine J.first 6 rfl ?_
    refine J.done_ret (res1 rfl rfl) ?_
    exact ⟨lb, le, lc, rfl, hz, rfl⟩
end Go.Proofs.YF
