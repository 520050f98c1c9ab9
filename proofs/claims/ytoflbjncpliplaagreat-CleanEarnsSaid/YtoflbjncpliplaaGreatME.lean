/- Part ME of the walks that a statement of this seat is proved by: laws of memory, then the functions one by one. -/
import Derived.ChangeKeysEq
import Derived.Test.YtoflbjncpliplaaGreatMD
namespace Go.Proofs.YF
open Go YE
attribute [local irreducible] CW LW OW XW AW PW HW RW AK HK AP HP DX CI LI OI BW RE MW J Gives
set_option maxHeartbeats 1000000
set_option maxRecDepth 20000

theorem Sl.slice {e sz : Nat} {v : Value} {n : Nat} {cs : List Value} {Hx : Heap} (h : Sl e sz v n cs Hx) : ∃ p c, v = .slice p n c := by
  rcases h with ⟨rfl, rfl, _⟩ | ⟨b, cap, rest, rfl, _⟩
  · exact ⟨none, 0, rfl⟩
  · exact ⟨_, _, rfl⟩
def headBlock (h : Hdv) (es : List Ent) (body : ByteArray) : ByteArray := headText h es ++ le (crc (crc 0 (headText h es)) body) 4
theorem headBlock_size (h : Hdv) (es : List Ent) (body : ByteArray) (hn : es.length ≤ 24) : (headBlock h es body).size = 256 := by rw [headBlock, ByteArray.size_append, le_size, headText_size h es hn]

theorem HeadPut (h : Hdv) (ho : h.Ok) (lv : Value) (n : Nat) (es : List Ent) (Hl : Heap) (hl : Sl 131 3 lv n (ecells es) Hl) (hn : es.length ≤ 24) (he : ∀ e, e ∈ es → e.Ok) (body : ByteArray) (hb : body.size = es.length * 256) :
    Sp Tryz.prog 190 #[h.v lv, .string body] [Hl] (fun r H => r = .tuple #[.string (headBlock h es body), .bool true] ∧ H = [Hl]) := by
  refine Sp.intro Tryz.func190 rfl rfl rfl fun w K => ?_
  have hnl : es.length = n := by
    have h1 := hl.len
    have h2 := flat_len (f := Ent.cells) (m := 3) es (fun _ _ => rfl)
    unfold ecells at h1; omega
  obtain ⟨p, cc, rfl⟩ := Sl.slice hl
  have hn2 : (n : Int) ≤ 24 := by omega
  have hbn : (body.size : Int) = n * 256 := by omega
  (try refine wk ?_); (repeat (intro b; (try refine wk ?_)))
  refine J.front 1 rfl rfl ?_
  (refine J.op rfl ?_; refine J.isCallF ?_; refine J.call (H1 := [_]) (HeadCheck h ho _ n es Hl hl hn he) rfl rfl rfl rfl ?_)
  rintro _ _ ⟨rfl, rfl⟩; refine J.put rfl ?_; refine J.nm ?_
  (try refine wk ?_); (repeat (intro b; (try refine wk ?_)))
  (refine J.op rfl ?_; refine J.isCallF ?_; refine J.call (H1 := [_]) (HeadBytes h ho _ n es Hl hl hn he) rfl rfl rfl rfl ?_)
  rintro _ _ ⟨rfl, rfl⟩; refine J.put rfl ?_; refine J.nm ?_
  (try refine wk ?_); (repeat (intro b; (try refine wk ?_)))
  (refine J.op rfl ?_; refine J.isCallF ?_; refine J.call (HeadSum (headText h es) body (headText_size h es hn) (by omega)) rfl rfl rfl rfl ?_; rintro _ _ ⟨rfl, rfl⟩; refine J.pn ?_)
  have hcr := crc_range (crc 0 (headText h es)) body
  (try refine wk ?_); (repeat (intro b; (try refine wk ?_)))
  (refine J.op rfl ?_; refine J.isCallF ?_; refine J.call (BinPut (crc (crc 0 (headText h es)) body) 4 (by omega) (by decide)) rfl rfl rfl rfl ?_; rintro _ _ ⟨rfl, rfl⟩; refine J.pn ?_)
  have hls : (headText h es).size + (le (crc (crc 0 (headText h es)) body) (4 : Int).toNat).size ≤ 9223372036854775807 := by rw [le_size, headText_size h es hn]; decide
  refine J.op rfl ?_; refine J.isBin ?_; refine J.give (Gives.strAdd rfl rfl rfl hls) rfl rfl ?_
  (try refine wk ?_); (repeat (intro b; (try refine wk ?_)))
  refine J.first 1 rfl ?_
  refine J.done_ret (res2 rfl rfl rfl) ?_
  exact ⟨rfl, rfl⟩
end Go.Proofs.YF
namespace Go.Proofs.YF
open Go YE
attribute [local irreducible] CW LW OW XW AW PW HW RW AK HK AP HP DX CI LI OI BW RE MW J Gives
set_option maxHeartbeats 1000000
set_option maxRecDepth 20000

theorem res4 {P : Program} {c : Cx} {S : Slots} {H : Hs} {fn : Func} {t u x y : Nat} {v v' v'' v3 : Value} (h : fn.results = #[.tmp t, .tmp u, .tmp x, .tmp y]) (hs : S.get t = some v) (hs' : S.get u = some v') (hs'' : S.get x = some v'') (hs3 : S.get y = some v3) :
    ∀ a w, Fr a c.n S → St c.w0 c.K0 w H.flatten → (results fn a.tmps).run P w = .ok (.tuple #[v, v', v'', v3]) w := fun a w hf _ => by
  have h1 := hf.get t v hs
  have h2 := hf.get u v' hs'
  have h3 := hf.get x v'' hs''
  have h4 := hf.get y v3 hs3
  simp only [Array.getD_eq_getD_getElem?] at h1 h2 h3 h4
  unfold results; simp [h, h1, h2, h3, h4]

/-- The way to a block: kind, kid, at, ok. -/
def way (i : Int) : Int × Int × Int × Bool :=
  if i < 0 ∨ 588 ≤ i then (0, 0, 0, false) else if 76 ≤ i then (2, (i - 12 - 64) / 64, (i - 12) % 64, true) else if 12 ≤ i then (1, 0, (i - 12) % 64, true) else (0, 0, i, true)
theorem Way (i : Int) : Sp Tryz.prog 120 #[i64 i] [] (Is (.tuple #[i64 (way i).1, i64 (way i).2.1, i64 (way i).2.2.1, .bool (way i).2.2.2])) := by
  refine Sp.intro Tryz.func120 rfl rfl rfl fun w K => ?_
  unfold way
  by_cases h0 : i < 0
  · (try refine wk ?_); (repeat (intro b; (try refine wk ?_)))
    refine J.clear ?_; refine J.done_ret (res4 rfl rfl rfl rfl rfl) ?_; refine ⟨?_, rfl⟩
    rw [if_pos (Or.inl h0)]
  · by_cases h1 : 588 ≤ i
    · (try refine wk ?_); (repeat (intro b; (try refine wk ?_)))
      refine J.clear ?_; refine J.done_ret (res4 rfl rfl rfl rfl rfl) ?_; refine ⟨?_, rfl⟩
      rw [if_pos (Or.inr h1)]
    · have h01 : ¬ (i < 0 ∨ 588 ≤ i) := by omega
      by_cases h2 : 76 ≤ i
      · (try refine wk ?_); (repeat (intro b; (try refine wk ?_)))
        refine J.clear ?_; refine J.done_ret (res4 rfl rfl rfl rfl rfl) ?_; refine ⟨?_, rfl⟩
        rw [if_neg h01, if_pos h2]; rfl
      · by_cases h3 : 12 ≤ i
        · (try refine wk ?_); (repeat (intro b; (try refine wk ?_)))
          refine J.clear ?_; refine J.done_ret (res4 rfl rfl rfl rfl rfl) ?_; refine ⟨?_, rfl⟩
          rw [if_neg h01, if_neg h2, if_pos h3]; rfl
        · (try refine wk ?_); (repeat (intro b; (try refine wk ?_)))
          refine J.clear ?_; refine J.done_ret (res4 rfl rfl rfl rfl rfl) ?_; refine ⟨?_, rfl⟩
          rw [if_neg h01, if_neg h2, if_neg h3]
end Go.Proofs.YF
namespace Go.Proofs.YF
open Go YE
attribute [local irreducible] CW LW OW XW AW PW HW RW AK HK AP HP DX CI LI OI BW RE MW J Gives
set_option maxHeartbeats 1000000
set_option maxRecDepth 20000

def underL (i : Int) : List Int := if (way i).1 = 1 then [0] else if (way i).1 = 2 then [1, 2 + (way i).2.1] else []
theorem Sl.whole {b n : Nat} {e : TypeId} {cs : List Value} (h : cs.length = n) (hn : n ≤ 1000) : Sl e 1 (slc b 0 n n) n cs [(b, .cells cs e (0, 0))] := by
  refine .inr ⟨b, n, [], rfl, by rw [List.append_nil], by omega, by rw [List.append_nil]; omega, Nat.le_refl _, ?_⟩
  have : maxLen = 9223372036854775807 := rfl
  omega
theorem way_kid (i : Int) : 0 ≤ (way i).2.1 ∧ (way i).2.1 ≤ 8 := by
  unfold way
  split
  · exact ⟨Int.le_refl 0, by decide⟩
  · split
    · show 0 ≤ (i - 12 - 64) / 64 ∧ (i - 12 - 64) / 64 ≤ 8
      omega
    · split
      · exact ⟨Int.le_refl 0, show (0 : Int) ≤ 8 by decide⟩
      · exact ⟨Int.le_refl 0, show (0 : Int) ≤ 8 by decide⟩
theorem Under (i : Int) : Sp Tryz.prog 106 #[i64 i] [] (fun r H => ∃ n Hr, Sl 3 1 r n (ints (underL i)) Hr ∧ H = [Hr]) := by
  refine Sp.intro Tryz.func106 rfl rfl rfl fun w K => ?_
  have hk := way_kid i
  (try refine wk ?_); (repeat (intro b; (try refine wk ?_)))
  (refine J.op rfl ?_; refine J.isCallF ?_; refine J.call (Way i) rfl rfl rfl rfl ?_; rintro _ _ ⟨rfl, rfl⟩; refine J.pn ?_)
  unfold underL
  by_cases h1 : (way i).1 = 1
  · rw [if_pos h1]
    (try refine wk ?_); (repeat (intro b; (try refine wk ?_)))
    refine J.op rfl ?_; refine J.isBuildSlice ?_; refine J.buildSl [i64 0] (cs := [i64 0]) rfl rfl rfl rfl rfl (fun v hv => by rw [List.mem_singleton.1 hv]; rfl) rfl rfl rfl ?_
    intro b
    (try refine wk ?_); (repeat (intro b; (try refine wk ?_)))
    refine J.done_ret (res1 rfl rfl) ?_
    exact ⟨1, _, Sl.whole (cs := [i64 0]) rfl (by decide), rfl⟩
  · rw [if_neg h1]
    by_cases h2 : (way i).1 = 2
    · rw [if_pos h2]
      (try refine wk ?_); (repeat (intro b; (try refine wk ?_)))
      refine J.op rfl ?_; refine J.isBuildSlice ?_; refine J.buildSl [i64 1, i64 (2 + (way i).2.1)] (cs := [i64 1, i64 (2 + (way i).2.1)]) rfl rfl rfl rfl rfl (fun v hv => by
        rcases List.mem_cons.1 hv with rfl | hv
        · rfl
        · rw [List.mem_singleton.1 hv]; rfl) rfl rfl rfl ?_
      intro b
      (try refine wk ?_); (repeat (intro b; (try refine wk ?_)))
      refine J.done_ret (res1 rfl rfl) ?_
      exact ⟨2, _, Sl.whole (cs := [i64 1, i64 (2 + (way i).2.1)]) rfl (by decide), rfl⟩
    · rw [if_neg h2]
      (try refine wk ?_); (repeat (intro b; (try refine wk ?_)))
      refine J.flat (H' := [[]]) rfl ?_
      refine J.done_ret (res1 rfl rfl) ?_
      exact ⟨0, [], Sl.nil 3 1, rfl⟩
end Go.Proofs.YF
namespace Go.Proofs
open YE
theorem Tryz.cellsU8 : Tryz.prog.cellsOf 5 = 1 := by kernel_rfl
end Go.Proofs
namespace Go.Proofs.YF
open Go YE
attribute [local irreducible] CW LW OW XW AW PW HW RW AK HK AP HP DX CI LI OI BW RE MW J Gives
set_option maxHeartbeats 1000000
set_option maxRecDepth 20000

abbrev bcell (b bb m cap : Nat) : List Value := [ptr b 0, slc bb 0 m cap]
theorem BLen (b bb m cap : Nat) : Sp Tryz.prog 168 #[ptr b 0] [[(b, .cells (bcell b bb m cap) 240 (0, 0))]] (fun v H => v = i64 m ∧ H = [[(b, .cells (bcell b bb m cap) 240 (0, 0))]]) := by
  refine Sp.intro Tryz.func168 rfl rfl rfl fun w K => ?_
  (try refine wk ?_); (repeat (intro b; (try refine wk ?_)))
  refine J.done_ret (res1 rfl rfl) ?_
  exact ⟨rfl, rfl⟩
theorem BString (b bb cap f : Nat) (s : ByteArray) (rest : List Value) (h0 : 0 < s.size) (hs : s.size ≤ 1000000000) (hf : f ≤ s.size) (hc : s.size ≤ cap) :
    Sp Tryz.prog 169 #[ptr b 0] [[(b, .cells (bcell b bb s.size cap) 240 (0, 0))], [(bb, .cells (bv s ++ rest) 5 (0, f))]] (fun v H => v = .string s ∧ H = [[(b, .cells (bcell b bb s.size cap) 240 (0, 0))], [(bb, .cells (bv s ++ rest) 5 (0, s.size))]]) := by
  refine Sp.intro Tryz.func169 rfl rfl rfl fun w K => ?_
  have hcap : Nat.blt 0 cap = true := by simp only [Nat.blt_eq]; omega
  (try refine wk ?_); (repeat (intro b; (try refine wk ?_)))
  refine J.any Tryz.mixed [[(b, .cells (bcell b bb s.size cap) 240 (0, 0))]] ?_
  refine J.tk 0 ?_
  refine J.tk 1 ?_
  refine J.tk 2 ?_
  (first | refine J.tk 3 ?_ | (refine J.tkO 3 ?_; first | refine J.giveT (Gives.sliceData rfl rfl hcap) rfl rfl ?_))
  (first | refine J.tk 4 ?_ | (refine J.tkO 4 ?_; first | refine J.giveT (Gives.sliceData rfl rfl hcap) rfl rfl ?_))
  refine J.tk 5 ?_
  refine J.tk 6 ?_
  refine J.tk 7 ?_
  (first | refine J.tk 8 ?_ | (refine J.tkO 8 ?_; first | refine J.giveT (Gives.sliceData rfl rfl hcap) rfl rfl ?_))
  (first | refine J.tk 9 ?_ | (refine J.tkO 9 ?_; first | refine J.giveT (Gives.sliceData rfl rfl hcap) rfl rfl ?_))
  refine J.on 10 ?_ -- call
  refine J.isBuiltin ?_; refine J.unsafeStr (s := s) 1 Tryz.cellsU8 rfl rfl rfl h0 hs hf ?_ rfl (H' := [[(b, .cells (bcell b bb s.size cap) 240 (0, 0))], [(bb, .cells (bv s ++ rest) 5 (0, s.size))]]) rfl ?_
  · rw [← bv_len]; exact List.take_left
  refine J.held (Sub.cons 0 rfl Sub.nil) ?_
  refine J.tk 11 ?_
  refine J.al ?_
  (try refine wk ?_); (repeat (intro b; (try refine wk ?_)))
  refine J.done_ret (res1 rfl rfl) ?_
  exact ⟨rfl, rfl⟩
theorem CopyCheck (b bb m cap : Nat) : Sp Tryz.prog 214 #[ptr b 0] [[(b, .cells (bcell b bb m cap) 240 (0, 0))]] (fun _ H => H = [[(b, .cells (bcell b bb m cap) 240 (0, 0))]]) := by
  refine Sp.intro Tryz.func214 rfl rfl rfl fun w K => ?_
  (try refine wk ?_); (repeat (intro b; (try refine wk ?_)))
  refine J.op rfl ?_; refine J.isBin ?_; refine J.give (Gives.ptrNeSelf rfl rfl rfl rfl) rfl rfl ?_
  (try refine wk ?_); (repeat (intro b; (try refine wk ?_)))
  refine J.done (fun a w _ _ => res0 rfl a.tmps w) ?_
  rfl
theorem BWrite (b bb cap f : Nat) (s t : ByteArray) (rest : List Value) (hs : s.size ≤ 1000000) (ht : t.size ≤ 1000000) (hf : f ≤ s.size) (hc : s.size + t.size ≤ cap) (hr : s.size + rest.length = cap) :
    Sp Tryz.prog 167 #[ptr b 0, .string t] [[(b, .cells (bcell b bb s.size cap) 240 (0, 0))], [(bb, .cells (bv s ++ rest) 5 (0, f))]] (fun _ H => ∃ rest', (s ++ t).size + rest'.length = cap ∧ H = [[(b, .cells (bcell b bb (s ++ t).size cap) 240 (0, 0))], [(bb, .cells (bv (s ++ t) ++ rest') 5 (0, f))]]) := by
  refine Sp.intro Tryz.func167 rfl rfl rfl fun w K => ?_
  (try refine wk ?_); (repeat (intro b; (try refine wk ?_)))
  (refine J.op rfl ?_; refine J.isCallF ?_; refine J.call (H1 := [_]) (CopyCheck b bb s.size cap) rfl rfl rfl rfl ?_)
  rintro _ _ rfl; refine J.put rfl ?_; refine J.nm ?_
  (try refine wk ?_); (repeat (intro b; (try refine wk ?_)))
  have e : splice (bv s ++ rest) s.size (bv t) = bv (s ++ t) ++ rest.drop t.size := by
    unfold splice
    rw [← bv_len s, List.take_left, bv_append, List.drop_append, bv_len t]
    simp
  refine J.op rfl ?_; refine J.isBuiltin ?_; refine J.appendStr 1 rfl rfl rfl rfl hc ?_ ?_ rfl (H' := [[(b, .cells (bcell b bb s.size cap) 240 (0, 0))], [(bb, .cells (bv (s ++ t) ++ rest.drop t.size) 5 (0, f))]]) ?_ ?_
  · rw [List.length_append, bv_len]; omega
  · simp [noFz]; omega
  · show [_, [(bb, HO.cells (splice (bv s ++ rest) s.size (bv t)) 5 (0, f))]] = _
    rw [e]
  (try refine wk ?_); (repeat (intro b; (try refine wk ?_)))
  refine J.done_ret (res2 rfl rfl rfl) ?_
  refine ⟨rest.drop t.size, ?_, ?_⟩
  · rw [ByteArray.size_append, List.length_drop]; omega
  · rw [ByteArray.size_append]
end Go.Proofs.YF
namespace Go.Proofs.YF
open Go YE
attribute [local irreducible] CW LW OW XW AW PW HW RW AK HK AP HP DX CI LI OI BW RE MW J Gives
set_option maxHeartbeats 1000000
set_option maxRecDepth 20000

theorem CopyCheck0 (b : Nat) (v : Value) : Sp Tryz.prog 214 #[ptr b 0] [[(b, .cells [.pointer none, v] 240 (0, 0))]] (fun _ H => H = [[(b, .cells [ptr b 0, v] 240 (0, 0))]]) := by
  refine Sp.intro Tryz.func214 rfl rfl rfl fun w K => ?_
  (try refine wk ?_); (repeat (intro b; (try refine wk ?_)))
  refine J.op rfl ?_; refine J.isConv ?_; refine J.give (Gives.toUnsafe 0 (by kernel_rfl) rfl rfl rfl rfl rfl) rfl rfl ?_
  refine J.op rfl ?_; refine J.isCallF ?_; refine J.give (Gives.noEscape Tryz.func239 rfl rfl (by kernel_rfl) (by kernel_rfl) rfl) rfl rfl ?_
  refine J.op rfl ?_; refine J.isConv ?_; refine J.give (Gives.fromUnsafe (j := (Tryz.prog.info? 240).get!) 0 (by kernel_rfl) (by kernel_rfl) rfl rfl rfl (by kernel_rfl)) rfl rfl ?_
  (try refine wk ?_); (repeat (intro b; (try refine wk ?_)))
  refine J.done (fun a w _ _ => res0 rfl a.tmps w) ?_
  rfl
theorem BGrow0 (b n : Nat) (hn : n ≤ 1000000) : Sp Tryz.prog 215 #[ptr b 0, i64 n] [[(b, .cells [ptr b 0, nils] 240 (0, 0))]]
    (fun _ H => ∃ bb cs, n ≤ cs.length ∧ H = [[(b, .cells (bcell b bb 0 cs.length) 240 (0, 0))], [(bb, .cells cs 5 (0, 0))]]) := by
  refine Sp.intro Tryz.func215 rfl rfl rfl fun w K => ?_
  have e0 : (2 : Int) * ((0 : Nat) : Int) + (n : Int) = n := by omega
  refine J.seq ?_
  refine J.any Tryz.mixed [[(b, .cells [ptr b 0, nils] 240 (0, 0))]] ?_
  refine J.tk 0 ?_
  refine J.tk 1 ?_
  refine J.tk 2 ?_
  refine J.tk 3 ?_
  refine J.tk 4 ?_
  refine J.tk 5 ?_
  refine J.tk 6 ?_
  refine J.tk 7 ?_
  refine J.tk 9 ?_
  refine J.tk 10 ?_
  refine J.tk 11 ?_
  refine J.tk 12 ?_
  refine J.tk 13 ?_
  refine J.on 8 ?_ -- call
  refine J.slot 12 (i64 n) rfl (congrArg i64 e0) ?_
  refine J.isCallF ?_; refine J.makeNoZero (ps := #[3]) (T := 102) (e := 5) Tryz.func240 rfl rfl (by kernel_rfl) (by kernel_rfl) (by kernel_rfl) rfl (by omega) rfl ?_
  intro bb cs hcs
  refine J.held (Sub.cons 1 rfl Sub.nil) ?_
  have hb0 : (0 : Int) ≤ ((0 : Nat) : Int) ∧ ((0 : Nat) : Int) ≤ cs.length := by omega
  (first | refine J.tk 14 ?_ | (refine J.tkO 14 ?_; first | refine J.giveT (Gives.slcTo rfl rfl rfl hb0) rfl rfl ?_))
  refine J.tk 15 ?_
  refine J.al ?_
  (try refine wk ?_); (repeat (intro b; (try refine wk ?_)))
  refine J.op rfl ?_; refine J.isBuiltin ?_; refine J.give (Gives.copyNil rfl rfl rfl) rfl rfl ?_
  (try refine wk ?_); (repeat (intro b; (try refine wk ?_)))
  refine J.front 1 rfl rfl ?_
  refine J.nm ?_
  refine J.done (fun a w _ _ => res0 rfl a.tmps w) ?_
  exact ⟨bb, cs, hcs, rfl⟩
theorem BGrow (b n : Nat) (hn : n ≤ 1000000) (h0 : 0 < n) : Sp Tryz.prog 166 #[ptr b 0, i64 n] [[(b, .cells [.pointer none, nils] 240 (0, 0))]]
    (fun _ H => ∃ bb cs, n ≤ cs.length ∧ H = [[(b, .cells (bcell b bb 0 cs.length) 240 (0, 0))], [(bb, .cells cs 5 (0, 0))]]) := by
  refine Sp.intro Tryz.func166 rfl rfl rfl fun w K => ?_
  (try refine wk ?_); (repeat (intro b; (try refine wk ?_)))
  (refine J.op rfl ?_; refine J.isCallF ?_; refine J.call (H1 := [_]) (CopyCheck0 b nils) rfl rfl rfl rfl ?_)
  rintro _ _ rfl; refine J.put rfl ?_; refine J.nm ?_
  have hn0 : ¬ (n : Int) < 0 := by omega
  (try refine wk ?_); (repeat (intro b; (try refine wk ?_)))
  refine J.any Tryz.mixed [[(b, .cells [ptr b 0, nils] 240 (0, 0))]] ?_
  refine J.tk 0 ?_
  refine J.tk 1 ?_
  refine J.tk 2 ?_
  refine J.tk 3 ?_
  refine J.tk 4 ?_
  refine J.tk 5 ?_
  refine J.tk 6 ?_
  refine J.tk 7 ?_
  refine J.tk 8 ?_
  refine J.tk 9 ?_
  refine J.tk 10 ?_
  refine J.tk 11 ?_
  refine J.tk 12 ?_
  refine J.al ?_
  have e0 : ((0 : Nat) : Int) - ((0 : Nat) : Int) < n := by omega
  (try refine wk ?_); (repeat (intro b; (try refine wk ?_)))
  (refine J.op rfl ?_; refine J.isCallF ?_; refine J.call (H1 := [_]) (BGrow0 b n hn) rfl rfl rfl rfl ?_)
  rintro _ _ ⟨bb, cs, hcs, rfl⟩; refine J.put rfl ?_; refine J.nm ?_
  (try refine wk ?_); (repeat (intro b; (try refine wk ?_)))
  refine J.done (fun a w _ _ => res0 rfl a.tmps w) ?_
  exact ⟨bb, cs, hcs, rfl⟩
end Go.Proofs.YF
namespace Go.Proofs.YF
open Go YE
attribute [local irreducible] CW LW OW XW AW PW HW RW AK HK AP HP DX CI LI OI BW RE MW J Gives
set_option maxHeartbeats 1000000
set_option maxRecDepth 20000

theorem Mul64_256 : Sp Tryz.prog 212 #[.int .u64 1, .int .u64 256] [] (Is (.tuple #[.int .u64 0, .int .u64 256])) := by
  refine Sp.intro Tryz.func212 rfl rfl rfl fun w K => ?_
  (try refine wk ?_); (repeat (intro b; (try refine wk ?_)))
  refine J.clear ?_; refine J.done_ret (res2 rfl rfl rfl) ?_; refine ⟨?_, rfl⟩
  rfl
theorem Mul_256 : Sp Tryz.prog 164 #[.int .u64 1, .int .u64 256] [] (Is (.tuple #[.int .u64 0, .int .u64 256])) := by
  refine Sp.intro Tryz.func164 rfl rfl rfl fun w K => ?_
  (try refine wk ?_); (repeat (intro b; (try refine wk ?_)))
  (refine J.op rfl ?_; refine J.isCallF ?_; refine J.call (Mul64_256) rfl rfl rfl rfl ?_; rintro _ _ ⟨rfl, rfl⟩; refine J.pn ?_)
  (try refine wk ?_); (repeat (intro b; (try refine wk ?_)))
  refine J.clear ?_; refine J.done_ret (res2 rfl rfl rfl) ?_; refine ⟨?_, rfl⟩
  rfl
theorem Mul64_207 : Sp Tryz.prog 212 #[.int .u64 1, .int .u64 207] [] (Is (.tuple #[.int .u64 0, .int .u64 207])) := by
  refine Sp.intro Tryz.func212 rfl rfl rfl fun w K => ?_
  (try refine wk ?_); (repeat (intro b; (try refine wk ?_)))
  refine J.clear ?_; refine J.done_ret (res2 rfl rfl rfl) ?_; refine ⟨?_, rfl⟩
  rfl
theorem Mul_207 : Sp Tryz.prog 164 #[.int .u64 1, .int .u64 207] [] (Is (.tuple #[.int .u64 0, .int .u64 207])) := by
  refine Sp.intro Tryz.func164 rfl rfl rfl fun w K => ?_
  (try refine wk ?_); (repeat (intro b; (try refine wk ?_)))
  (refine J.op rfl ?_; refine J.isCallF ?_; refine J.call (Mul64_207) rfl rfl rfl rfl ?_; rintro _ _ ⟨rfl, rfl⟩; refine J.pn ?_)
  (try refine wk ?_); (repeat (intro b; (try refine wk ?_)))
  refine J.clear ?_; refine J.done_ret (res2 rfl rfl rfl) ?_; refine ⟨?_, rfl⟩
  rfl
theorem zeros_add (k m : Nat) : zeros k ++ zeros m = zeros (k + m) := by
  unfold zeros
  apply ByteArray.ext
  rw [ByteArray.data_append]
  apply Array.ext'
  simp [List.replicate_append_replicate]
theorem zeros_extract (k m : Nat) (h : m ≤ k) : (zeros k).extract 0 m = zeros m := by
  unfold zeros
  apply ByteArray.ext
  rw [ByteArray.data_extract]
  apply Array.ext'
  simp [List.take_replicate, Nat.min_eq_left h]
theorem zeros_one : (⟨#[0]⟩ : ByteArray) = zeros 1 := rfl
theorem u64_wrap (n : Nat) (h : n ≤ 100000) : IntKind.u64.wrap (n : Int) = n := by
  simp only [IntKind.wrap, IntKind.bits, IntKind.signed]
  simp
  omega
theorem i64_wrap (n : Nat) (h : n ≤ 100000) : IntKind.i64.wrap (n : Int) = n := wrap64_in (by omega)
theorem RepeatN (s : ByteArray) (hs : s = zeros 1) (n : Nat) (hn1 : 2 ≤ n) (hn2 : n ≤ 1000) (hmul : Sp Tryz.prog 164 #[.int .u64 1, .int .u64 n] [] (Is (.tuple #[.int .u64 0, .int .u64 n]))) :
    Sp Tryz.prog 122 #[.string s, i64 n] [] (Is (.string (zeros n))) := by
  refine Sp.intro Tryz.func122 rfl rfl rfl fun w K => ?_
  have h1 : ¬ (n : Int) = 0 := by omega
  have h2 : ¬ (n : Int) = 1 := by omega
  have h3 : ¬ (n : Int) < 0 := by omega
  have hz : s.size = 1 := by rw [hs]; rfl
  have h8 : ¬ (n : Int) > 8192 := by omega
  have h0 : s[(0 : Int).toNat]? = some 0 := by rw [hs]; rfl
  (try refine wk ?_); (repeat (intro b; (try refine wk ?_)))
  refine J.slot 23 (.int .u64 1) rfl (by rw [hz]; rfl) ?_
  refine J.slot 25 (.int .u64 n) rfl (congrArg (Value.int .u64) (u64_wrap n (by omega))) ?_
  have hbig : ¬ (n : Int) > 9223372036854775807 := by omega
  (refine J.op rfl ?_; refine J.isCallF ?_; refine J.call (hmul) rfl rfl rfl rfl ?_; rintro _ _ ⟨rfl, rfl⟩; refine J.pn ?_)
  (try refine wk ?_); (repeat (intro b; (try refine wk ?_)))
  refine J.slot 7 (i64 n) rfl (congrArg i64 (i64_wrap n (by omega))) ?_
  (try refine wk ?_); (repeat (intro b; (try refine wk ?_)))
  refine J.op rfl ?_; refine J.isIndex ?_; refine J.give (Gives.indexStr (u := 0) rfl StrT.und rfl rfl (by omega) h0) rfl rfl ?_
  (try refine wk ?_); (repeat (intro b; (try refine wk ?_)))
  (refine J.op rfl ?_; refine J.isCallF ?_; refine J.call (H1 := [_]) (BGrow b n (by omega) (by omega)) rfl rfl rfl rfl ?_)
  rintro _ _ ⟨bb, cs, hcs, rfl⟩; refine J.put rfl ?_; refine J.nm ?_
  (try refine wk ?_); (repeat (intro b; (try refine wk ?_)))
  (refine J.op rfl ?_; refine J.isCallF ?_; refine J.call (H1 := [_, _]) (BWrite b bb cs.length 0 ⟨#[]⟩ s cs (by decide) (by omega) (by omega) (by rw [hz]; show 0 + 1 ≤ _; omega) (by show 0 + _ = _; omega)) rfl rfl rfl rfl ?_)
  have e1 : (⟨#[]⟩ ++ s : ByteArray) = zeros 1 := by rw [hs]; rfl
  rw [e1]
  rintro _ _ ⟨rest', hr', rfl⟩; refine J.put rfl ?_; refine J.nm ?_
  (try refine wk ?_); (repeat (intro b; (try refine wk ?_)))
  refine J.pick [7, 8, 9] rfl ?_
  refine J.loop (α := Nat × Nat × List Value) (fun x => [(7, i64 n), (8, i64 n), (9, ptr b 0)]) (fun x => [[(b, .cells (bcell b bb (zeros x.1).size cs.length) 240 (0, 0))], [(bb, .cells (bv (zeros x.1) ++ x.2.2) 5 (0, x.2.1))]]) (fun x => 1 ≤ x.1 ∧ x.1 ≤ n ∧ x.2.1 ≤ x.1 ∧ x.1 + x.2.2.length = cs.length) (fun x => n - x.1) (1, 0, rest') ⟨Nat.le_refl 1, (by show 1 ≤ n; omega), Nat.zero_le 1, by rw [zeros_size] at hr'; exact hr'⟩ (fun _ _ h => h) rfl ?_
  rintro ⟨k, f, rest⟩ ⟨hk1, hk2, hk3, hk4⟩
  simp only at hk1 hk2 hk3 hk4
  have hzk := zeros_size k
  (try refine wk ?_); (repeat (intro b; (try refine wk ?_)))
  (refine J.op rfl ?_; refine J.isCallF ?_; refine J.call (H1 := [_]) (BLen b bb (zeros k).size cs.length) rfl rfl rfl rfl ?_)
  rintro _ _ ⟨rfl, rfl⟩; refine J.put rfl ?_; refine J.nm ?_
  refine J.slot 111 (i64 k) rfl (by rw [hzk]) ?_
  by_cases hkn : k < n
  · have hki : (k : Int) < n := by omega
    (try refine wk ?_); (repeat (intro b; (try refine wk ?_)))
    (refine J.op rfl ?_; refine J.isCallF ?_; refine J.call (H1 := [_]) (BLen b bb (zeros k).size cs.length) rfl rfl rfl rfl ?_)
    rintro _ _ ⟨rfl, rfl⟩; refine J.put rfl ?_; refine J.nm ?_
    refine J.slot 115 (i64 k) rfl (by rw [hzk]) ?_
    (try refine wk ?_); (repeat (intro b; (try refine wk ?_)))
    (refine J.op rfl ?_; refine J.isCallF ?_; refine J.call (H1 := [_]) (BLen b bb (zeros k).size cs.length) rfl rfl rfl rfl ?_)
    rintro _ _ ⟨rfl, rfl⟩; refine J.put rfl ?_; refine J.nm ?_
    refine J.slot 117 (i64 k) rfl (by rw [hzk]) ?_
    (try refine wk ?_); (repeat (intro b; (try refine wk ?_)))
    obtain ⟨m, hm⟩ : ∃ m : Nat, min (min ((n : Int) - (k : Int)) k) n = m := ⟨(min (min ((n : Int) - (k : Int)) k) n).toNat, by omega⟩
    refine J.slot 10 (i64 m) rfl (by rw [hm]) ?_
    (refine J.op rfl ?_; refine J.isCallF ?_; refine J.call (H1 := [_, _]) (BString b bb cs.length f (zeros k) rest (by omega) (by omega) (by omega) (by omega)) rfl rfl rfl rfl ?_)
    rintro _ _ ⟨rfl, rfl⟩; refine J.put rfl ?_; refine J.nm ?_
    (try refine wk ?_); (repeat (intro b; (try refine wk ?_)))
    have hex : (zeros k).extract 0 (m : Int).toNat = zeros m := zeros_extract k m (by omega)
    refine J.slot 122 (.string (zeros m)) rfl (by rw [← hex]) ?_
    have hzm := zeros_size m
    (refine J.op rfl ?_; refine J.isCallF ?_; refine J.call (H1 := [_, _]) (BWrite b bb cs.length (zeros k).size (zeros k) (zeros m) rest (by omega) (by omega) (by omega) (by omega) (by omega)) rfl rfl rfl rfl ?_)
    rw [zeros_add]
    rintro _ _ ⟨rest2, hr2, rfl⟩; refine J.put rfl ?_; refine J.nm ?_
    (try refine wk ?_); (repeat (intro b; (try refine wk ?_)))
    refine J.pick [7, 8, 9] rfl ?_
    exact J.round (k + m, (zeros k).size, rest2) ⟨by show 1 ≤ k + m; omega, by show k + m ≤ n; omega, by show (zeros k).size ≤ k + m; omega, by rw [zeros_size] at hr2; exact hr2⟩ (by show n - (k + m) < n - k; omega) (fun _ _ h => h) rfl
  · obtain rfl : n = k := by omega
    (try refine wk ?_); (repeat (intro b; (try refine wk ?_)))
    (refine J.op rfl ?_; refine J.isCallF ?_; refine J.call (H1 := [_, _]) (BString b bb cs.length f (zeros n) rest (by omega) (by omega) (by omega) (by omega)) rfl rfl rfl rfl ?_)
    rintro _ _ ⟨rfl, rfl⟩; refine J.put rfl ?_; refine J.nm ?_
    (try refine wk ?_); (repeat (intro b; (try refine wk ?_)))
    refine J.clear ?_; refine J.done_ret (res1 rfl rfl) ?_; refine ⟨?_, rfl⟩
    rfl
theorem Repeat256 (s : ByteArray) (hs : s = zeros 1) : Sp Tryz.prog 122 #[.string s, i64 256] [] (Is (.string (zeros 256))) := RepeatN s hs 256 (by omega) (by omega) Mul_256
theorem Blank : Sp Tryz.prog 67 #[] [] (Is (.string (zeros 256))) := by
  refine Sp.intro Tryz.func67 rfl rfl rfl fun w K => ?_
  (try refine wk ?_); (repeat (intro b; (try refine wk ?_)))
  (refine J.op rfl ?_; refine J.isCallF ?_; refine J.call (Repeat256 _ zeros_one) rfl rfl rfl rfl ?_; rintro _ _ ⟨rfl, rfl⟩; refine J.pn ?_)
  (try refine wk ?_); (repeat (intro b; (try refine wk ?_)))
  refine J.clear ?_; refine J.done_ret (res1 rfl rfl) ?_; refine ⟨?_, rfl⟩
  rfl
end Go.Proofs.YF
namespace Go.Proofs
open YE
theorem Tryz.fields31 : ((Tryz.prog.fieldsOf 31).toList.map fun f => (f.name == "_", f.type, f.offset)) = [(false, 3, 0), (false, 3, 1), (false, 3, 2), (false, 3, 3), (false, 3, 4), (false, 29, 5)] := by kernel_rfl
theorem Tryz.und31 : Tryz.prog.underlying 31 = some (.struct (Tryz.prog.fieldsOf 31)) := by kernel_rfl
theorem Tryz.held31 : Tryz.prog.stoodInHeld 31 = false := by kernel_rfl
theorem Tryz.guard31 : Tryz.prog.eqGuardType Tryz.prog.depth 31 = false := by kernel_rfl
theorem Tryz.und29 : Tryz.prog.underlying 29 = some (.array 14 3) := by kernel_rfl
theorem Tryz.und3 : Tryz.prog.underlying 3 = some (.int .i64) := by kernel_rfl
theorem Tryz.cells3 : Tryz.prog.cellsOf 3 = 1 := by kernel_rfl
end Go.Proofs
namespace Go.Proofs.YF
open Go YE
attribute [local irreducible] CW LW OW XW AW PW HW RW AK HK AP HP DX CI LI OI BW RE MW J Gives
set_option maxHeartbeats 1000000
set_option maxRecDepth 20000

/-- A node. -/
structure Nd where (num kind links size time : Int) (ps : List Int)
abbrev Nd.list (x : Nd) : List Int := [x.num, x.kind, x.links, x.size, x.time] ++ x.ps
abbrev Nd.cells (x : Nd) : List Value := [i64 x.num, i64 x.kind, i64 x.links, i64 x.size, i64 x.time] ++ ints x.ps
def Nd.v (x : Nd) : Value := .agg x.cells.toArray
def Nd.okB (x : Nd) : Bool := decide (1 ≤ x.num ∧ x.num ≤ 255) && decide (1 ≤ x.kind ∧ x.kind ≤ 2) && decide (0 ≤ x.links ∧ x.links ≤ 100) && decide (0 ≤ x.size ∧ x.size ≤ 150528) && decide (x.kind ≠ 2 ∨ x.size % 256 = 0) && decide (0 ≤ x.time ∧ x.time ≤ 1099511627776) && x.ps.all (fun p => decide (0 ≤ p ∧ p ≤ 16383))

section
theorem eqItems_some (d : Nat) (xs ys : Array Value) : ∀ (is : List Nat), (∀ i, i ∈ is → ∃ a b : Int, xs[i]? = some (i64 a) ∧ ys[i]? = some (i64 b)) → ∃ r, ∀ w, (Op.eqItems (d + 1) 3 1 xs ys is).run Tryz.prog w = .ok r w
  | [], _ => ⟨true, fun w => by simp [Op.eqItems]⟩
  | i :: is, h => by
    obtain ⟨a, b, h1, h2⟩ := h i (by simp)
    obtain ⟨r, hr⟩ := eqItems_some d xs ys is (fun j hj => h j (by simp [hj]))
    by_cases e : a = b
    · exact ⟨r, fun w => by
        simp only [Op.eqItems, Nat.mul_one, Sem.run_bind, part_int Tryz.und3 h1, part_int Tryz.und3 h2, Result.andThen_ok, run_equalIn_int w d 3 .i64 .i64 a b Tryz.und3]
        simpa [e] using hr w⟩
    · exact ⟨false, fun w => by
        simp only [Op.eqItems, Nat.mul_one, Sem.run_bind, part_int Tryz.und3 h1, part_int Tryz.und3 h2, Result.andThen_ok, run_equalIn_int w d 3 .i64 .i64 a b Tryz.und3]
        simp [e]⟩
theorem eqFields_some (xs ys : Array Value) : ∀ (fs : List Field), (∀ f, f ∈ fs → f.name ≠ "_" ∧ ∃ a b r, ∀ w, (part f.type xs f.offset).run Tryz.prog w = .ok a w ∧ (part f.type ys f.offset).run Tryz.prog w = .ok b w ∧ (Op.equalIn 9999 f.type a b).run Tryz.prog w = .ok r w) →
    ∃ r, ∀ w, (Op.eqFields 9999 xs ys fs).run Tryz.prog w = .ok r w
  | [], _ => ⟨true, fun w => by simp [Op.eqFields]⟩
  | f :: fs, h => by
    obtain ⟨h0, a, b, r, hr⟩ := h f (by simp)
    obtain ⟨q, hq⟩ := eqFields_some xs ys fs (fun g hg => h g (by simp [hg]))
    cases r with
    | true => exact ⟨q, fun w => by
        obtain ⟨h1, h2, h3⟩ := hr w
        simp only [Op.eqFields, h0, ne_eq, not_false_eq_true, if_true, Sem.run_bind, h1, h2, h3, Result.andThen_ok]
        simpa using hq w⟩
    | false => exact ⟨false, fun w => by
        obtain ⟨h1, h2, h3⟩ := hr w
        simp only [Op.eqFields, h0, ne_eq, not_false_eq_true, if_true, Sem.run_bind, h1, h2, h3, Result.andThen_ok]
        simp⟩
/-- Two nodes compared: a truth value; 'unlike' if their numbers are. -/
theorem neNode (xs ys : List Int) (hx : xs.length = 19) (hy : ys.length = 19) :
    ∃ r : Bool, (xs[0]? ≠ ys[0]? → r = true) ∧ ∀ w, (binOp .neq 31 (.agg (ints xs).toArray) (.agg (ints ys).toArray)).run Tryz.prog w = .ok (.bool r) w := by
  have hf := Tryz.fields31
  have gx : ∀ i, i < 19 → ∃ a : Int, xs[i]? = some a ∧ (ints xs).toArray[i]? = some (i64 a) := fun i hi => ⟨xs[i]'(by omega), by simp [hx, hi], by simp [hx, hi]⟩
  have gy : ∀ i, i < 19 → ∃ a : Int, ys[i]? = some a ∧ (ints ys).toArray[i]? = some (i64 a) := fun i hi => ⟨ys[i]'(by omega), by simp [hy, hi], by simp [hy, hi]⟩
  have ee : ∀ (w : World) (a b : Int), (Op.equalIn 9999 3 (i64 a) (i64 b)).run Tryz.prog w = .ok (a == b) w := fun w a b => run_equalIn_int w 9998 3 .i64 .i64 a b Tryz.und3
  have hall : ∀ f, f ∈ (Tryz.prog.fieldsOf 31).toList → f.name ≠ "_" ∧ ∃ a b r, ∀ w, (part f.type (ints xs).toArray f.offset).run Tryz.prog w = .ok a w ∧ (part f.type (ints ys).toArray f.offset).run Tryz.prog w = .ok b w ∧ (Op.equalIn 9999 f.type a b).run Tryz.prog w = .ok r w := by
    intro f hm
    have hm' : (f.name == "_", f.type, f.offset) ∈ (Tryz.prog.fieldsOf 31).toList.map fun f => (f.name == "_", f.type, f.offset) := List.mem_map.2 ⟨f, hm, rfl⟩
    rw [hf] at hm'
    have int3 : ∀ i, i < 19 → ∃ a b r, ∀ w, (part 3 (ints xs).toArray i).run Tryz.prog w = .ok a w ∧ (part 3 (ints ys).toArray i).run Tryz.prog w = .ok b w ∧ (Op.equalIn 9999 3 a b).run Tryz.prog w = .ok r w := fun i hi => by
      obtain ⟨a, _, h1⟩ := gx i hi
      obtain ⟨b, _, h2⟩ := gy i hi
      exact ⟨_, _, _, fun w => ⟨part_int Tryz.und3 h1, part_int Tryz.und3 h2, ee w a b⟩⟩
    simp only [List.mem_cons, Prod.mk.injEq, List.not_mem_nil, or_false] at hm'
    rcases hm' with ⟨n, t, o⟩ | ⟨n, t, o⟩ | ⟨n, t, o⟩ | ⟨n, t, o⟩ | ⟨n, t, o⟩ | ⟨n, t, o⟩
    · rw [t, o]; exact ⟨by simpa using n, int3 0 (by omega)⟩
    · rw [t, o]; exact ⟨by simpa using n, int3 1 (by omega)⟩
    · rw [t, o]; exact ⟨by simpa using n, int3 2 (by omega)⟩
    · rw [t, o]; exact ⟨by simpa using n, int3 3 (by omega)⟩
    · rw [t, o]; exact ⟨by simpa using n, int3 4 (by omega)⟩
    · rw [t, o]
      refine ⟨by simpa using n, ?_⟩
      have pa : ∀ (w : World) (cs : Array Value), (part 29 cs 5).run Tryz.prog w = .ok (.agg (cs.extract 5 (5 + 14))) w := fun w cs => by
        simp [part, isAgg_agg (P := Tryz.prog) (T := 29) (n := 14), size_run (Siz.size (P := Tryz.prog) (T := 29) (n := 14))]
      obtain ⟨i, hi⟩ := info_of_underlying Tryz.und3
      obtain ⟨r, hr⟩ := eqItems_some 9997 ((ints xs).toArray.extract 5 19) ((ints ys).toArray.extract 5 19) (List.range 14) (fun i hi => by
        simp at hi
        obtain ⟨a, _, h1⟩ := gx (5 + i) (by omega)
        obtain ⟨b, _, h2⟩ := gy (5 + i) (by omega)
        refine ⟨a, b, ?_, ?_⟩
        · rw [Array.getElem?_extract, if_pos (by simp [hx]; omega)]; exact h1
        · rw [Array.getElem?_extract, if_pos (by simp [hy]; omega)]; exact h2)
      refine ⟨_, _, r, fun w => ⟨pa w _, pa w _, ?_⟩⟩
      have := run_equalIn_array (P := Tryz.prog) w 9998 ((ints xs).toArray.extract 5 19) ((ints ys).toArray.extract 5 19) Tryz.und29 hi
      rw [Tryz.cells3] at this
      exact this.trans (hr w)
  have hstep : ∃ f0 fs, (Tryz.prog.fieldsOf 31).toList = f0 :: fs ∧ f0.type = 3 ∧ f0.offset = 0 := by
    cases h : (Tryz.prog.fieldsOf 31).toList with
    | nil => rw [h] at hf; simp at hf
    | cons f0 fs =>
      rw [h] at hf
      simp only [List.map_cons, List.cons.injEq, Prod.mk.injEq] at hf
      exact ⟨f0, fs, rfl, hf.1.2.1, hf.1.2.2⟩
  obtain ⟨f0, fs, hl, t0, o0⟩ := hstep
  rw [hl] at hall
  obtain ⟨a, ha, ha'⟩ := gx 0 (by omega)
  obtain ⟨b, hb, hb'⟩ := gy 0 (by omega)
  obtain ⟨q, hq⟩ := eqFields_some (ints xs).toArray (ints ys).toArray (f0 :: fs) hall
  have hq0 : a ≠ b → q = false := fun hne => by
    have hq := hq default
    simp only [Op.eqFields, (hall f0 (by simp)).1, ne_eq, not_false_eq_true, if_true, Sem.run_bind, t0, o0, part_int Tryz.und3 ha', part_int Tryz.und3 hb', ee, Result.andThen_ok, beq_eq_false_iff_ne.2 hne] at hq
    simpa using hq.symm
  refine ⟨!q, fun hne => ?_, fun w => ?_⟩
  · rw [ha, hb] at hne
    rw [hq0 (fun e => hne (by rw [e]))]; rfl
  · rw [run_neq_struct, show (10000 : Nat) = 9999 + 1 from rfl, run_equalIn_struct w 9999 31 _ _ Tryz.und31 Tryz.held31, hl, hq w]
    rfl
end
theorem Gives.neN {n : Nat} {S : Slots} {H : Hs} {o : Oper} {U : TypeId} {x y : Operand} {xs ys : List Int} {r : Bool} (h : ∀ w, (binOp .neq 31 (.agg (ints xs).toArray) (.agg (ints ys).toArray)).run Tryz.prog w = .ok (.bool r) w) (ho : o.op = .binOp .neq 31 x y U) (hxv : ev S x = some (.agg (ints xs).toArray)) (hyv : ev S y = some (.agg (ints ys).toArray)) :
    Gives Tryz.prog n o (.bool r) S H := by
  unfold Gives; intro a w hf _
  have hg := run_eqGuard_agg (P := Tryz.prog) w .neq 31 x y (ints xs).toArray (ints ys).toArray Tryz.guard31
  unfold execOp; rw [ho]
  simp [hf.ev hxv, hf.ev hyv, hg, h w]
theorem NodeIn (v a b : Int) : Sp Tryz.prog 103 #[i64 v, i64 a, i64 b] [] (Is (.bool (decide (a ≤ v ∧ v ≤ b)))) := by
  refine Sp.intro Tryz.func103 rfl rfl rfl fun w K => ?_
  by_cases h1 : a ≤ v
  · have h1' : v ≥ a := h1
    (try refine wk ?_); (repeat (intro b; (try refine wk ?_)))
    refine J.clear ?_; refine J.done_ret (res1 rfl rfl) ?_; refine ⟨?_, rfl⟩
    simp [h1]
  · have h1' : ¬ v ≥ a := h1
    (try refine wk ?_); (repeat (intro b; (try refine wk ?_)))
    refine J.clear ?_; refine J.done_ret (res1 rfl rfl) ?_; refine ⟨?_, rfl⟩
    simp [h1]
def Nd.ok0 (x : Nd) : Bool := decide (1 ≤ x.num ∧ x.num ≤ 255) && decide (1 ≤ x.kind ∧ x.kind ≤ 2) && decide (0 ≤ x.links ∧ x.links ≤ 100) && decide (0 ≤ x.size ∧ x.size ≤ 150528) && decide (x.kind ≠ 2 ∨ x.size % 256 = 0) && decide (0 ≤ x.time ∧ x.time ≤ 1099511627776)
theorem NodeCheck (x : Nd) (hp : x.ps.length = 14) : Sp Tryz.prog 57 #[x.v] [] (Is (.bool x.okB)) := by
  refine Sp.intro Tryz.func57 rfl rfl rfl fun w K => ?_
  obtain ⟨r, hr, hne⟩ := neNode x.list (List.replicate 19 0) (by simp [Nd.list, hp]) (by simp)
  have hr : x.num ≠ 0 → r = true := fun h => hr (by simpa [Nd.list] using h)
  have hl19 : (x.cells.drop 0).take 19 = ints x.list := by
    rw [List.drop_zero, List.take_of_length_le (by simp [hp])]; simp [Nd.cells, Nd.list, ints]
  have hps : ∀ k, (h : k < 14) → ∃ p, x.ps[k]? = some p ∧ p ∈ x.ps := fun k h => ⟨x.ps[k]'(by omega), by simp, by simp⟩
  refine J.seq ?_; refine J.region ?_; refine J.op rfl ?_
  (refine wo ?_; (try intro b))
  refine J.op rfl ?_
  (refine wo ?_; (try intro b))
  refine J.nil ?_; refine J.thenN ?_
  refine J.cut (α := Unit) (fun _ => [(3, .bool x.ok0), (1, ptr b 0)]) (fun _ => [[(b, .cells x.cells 31 (0, 0))]]) (fun _ => True) (fun _ _ => ?_) ?_
  · have hpsl : ((x.cells.drop 5).take 14) = ints x.ps := by
      simp only [Nd.cells, List.drop_append, List.length_cons, List.length_nil]
      simp only [List.drop_succ_cons, List.drop_nil, List.drop_zero, Nat.reduceAdd, Nat.sub_self, List.nil_append]
      rw [List.take_of_length_le (by simp [hp])]
    refine J.seq ?_
    refine J.seq ?_; refine J.region ?_
    refine J.op rfl ?_
    (refine wo ?_; (try intro b))
    refine J.op rfl ?_; refine J.isLoad ?_; refine J.give (Gives.loadA 0 rfl rfl rfl (by simp [Nd.cells, hp]) hpsl) rfl rfl ?_
    (try refine wk ?_); (repeat (intro b; (try refine wk ?_)))
    refine J.slot 3 (.bool (x.ok0 && (x.ps.take 0).all (fun p => decide (0 ≤ p ∧ p ≤ 16383)))) rfl (by simp) ?_
    refine J.pick [3, 46, 47] rfl ?_
    refine J.clear ?_
    refine J.loop (α := Nat) (fun k => [(3, .bool (x.ok0 && (x.ps.take k).all (fun p => decide (0 ≤ p ∧ p ≤ 16383)))), (46, .agg (ints x.ps).toArray), (47, i64 k)]) (fun _ => []) (fun k => k ≤ 14) (fun k => 14 - k) 0 (Nat.zero_le _) (fun _ _ h => h) rfl (fun k hk => ?_)
    by_cases hkn : k < 14
    · have hki : (k : Int) < 14 := by omega
      obtain ⟨p, hpk, _⟩ := hps k hkn
      have hpk' : (ints x.ps)[(k : Int).toNat]? = some (i64 p) := by simp [hpk]
      have hrange : (0 : Int) ≤ k ∧ (k : Int) < (14 : Nat) := by omega
      have htk : (x.ok0 && (x.ps.take (k + 1)).all (fun p => decide (0 ≤ p ∧ p ≤ 16383))) = ((x.ok0 && (x.ps.take k).all (fun p => decide (0 ≤ p ∧ p ≤ 16383))) && decide (0 ≤ p ∧ p ≤ 16383)) := by
        rw [List.take_succ_eq_append_getElem (by omega), List.all_append]
        have : x.ps[k]'(by omega) = p := by
          have := List.getElem?_eq_some_iff.1 hpk
          exact this.2
        simp [this, Bool.and_assoc]
      (try refine wk ?_); (repeat (intro b; (try refine wk ?_)))
      refine J.op rfl ?_; refine J.isIndex ?_; refine J.give (Gives.indexA1 rfl rfl rfl hrange hpk') rfl rfl ?_
      (try refine wk ?_); (repeat (intro b; (try refine wk ?_)))
      cases hb : (x.ok0 && (x.ps.take k).all (fun p => decide (0 ≤ p ∧ p ≤ 16383))) with
      | true =>
        (try refine wk ?_); (repeat (intro b; (try refine wk ?_)))
        refine J.want rfl rfl rfl ?_
        (refine J.isCallF ?_; refine J.call (NodeIn p 0 16383) rfl rfl rfl rfl ?_; rintro _ _ ⟨rfl, rfl⟩; refine J.pn ?_)
        (try refine wk ?_); (repeat (intro b; (try refine wk ?_)))
        refine J.pick [3, 46, 47] rfl ?_
        refine J.slot 3 (.bool (x.ok0 && (x.ps.take (k + 1)).all (fun p => decide (0 ≤ p ∧ p ≤ 16383)))) rfl (by rw [htk, hb, Bool.true_and]) ?_
        refine J.pick [3, 46, 47] rfl ?_
        exact J.round (k + 1) hkn (by omega) (fun _ _ h => h) rfl
      | false =>
        (try refine wk ?_); (repeat (intro b; (try refine wk ?_)))
        refine J.pick [3, 46, 47] rfl ?_
        refine J.slot 3 (.bool (x.ok0 && (x.ps.take (k + 1)).all (fun p => decide (0 ≤ p ∧ p ≤ 16383)))) rfl (by rw [htk, hb, Bool.false_and]) ?_
        refine J.pick [3, 46, 47] rfl ?_
        exact J.round (k + 1) hkn (by omega) (fun _ _ h => h) rfl
    · obtain rfl : 14 = k := by omega
      (try refine wk ?_); (repeat (intro b; (try refine wk ?_)))
      refine J.clear ?_; refine J.done_ret (res1 rfl rfl) ?_; refine ⟨?_, rfl⟩
      rw [List.take_of_length_le (by omega)]; rfl
  · (try refine wk ?_); (repeat (intro b; (try refine wk ?_)))
    refine J.op rfl ?_; refine J.isLoad ?_; refine J.give (Gives.loadA 0 rfl rfl rfl (by simp [Nd.cells, hp]) hl19) rfl rfl ?_
    refine J.op rfl ?_; refine J.isBuild ?_; refine J.give (Gives.build (vs := []) (cells := (ints (List.replicate 19 0)).toArray) rfl rfl (by kernel_rfl)) rfl rfl ?_
    refine J.op rfl ?_; refine J.isBin ?_; refine J.give (Gives.neN hne rfl rfl rfl) rfl rfl ?_
    by_cases h1 : 1 ≤ x.num ∧ x.num ≤ 255
    · obtain rfl : r = true := hr (by omega)
      by_cases h2 : 1 ≤ x.kind ∧ x.kind ≤ 2
      · by_cases h3 : 0 ≤ x.links ∧ x.links ≤ 100
        · by_cases h4 : 0 ≤ x.size ∧ x.size ≤ 150528
          · by_cases h5 : x.kind = 2
            · by_cases h6 : x.size % 256 = 0
              · have h5' : ¬ x.kind ≠ 2 := by omega
                repeat' (first | refine wk ?_ | intro b | (refine J.op rfl ?_; refine J.isCallF ?_; refine J.call (H1 := []) (NodeIn _ _ _) rfl rfl rfl rfl ?_; rintro _ _ ⟨rfl, rfl⟩; refine J.pn ?_) | (refine J.want rfl rfl rfl ?_; refine J.isCallF ?_; refine J.call (H1 := []) (NodeIn _ _ _) rfl rfl rfl rfl ?_; rintro _ _ ⟨rfl, rfl⟩; refine J.pn ?_))
                refine J.slot 3 (.bool x.ok0) rfl (congrArg Value.bool ?_) ?_
                · simp [Nd.ok0, h1, h2, h3, h4, h6]
                refine J.pick [3, 1] rfl ?_
                exact J.mid () trivial (fun _ _ h => h) rfl
              · have h5' : ¬ x.kind ≠ 2 := by omega
                repeat' (first | refine wk ?_ | intro b | (refine J.op rfl ?_; refine J.isCallF ?_; refine J.call (H1 := []) (NodeIn _ _ _) rfl rfl rfl rfl ?_; rintro _ _ ⟨rfl, rfl⟩; refine J.pn ?_) | (refine J.want rfl rfl rfl ?_; refine J.isCallF ?_; refine J.call (H1 := []) (NodeIn _ _ _) rfl rfl rfl rfl ?_; rintro _ _ ⟨rfl, rfl⟩; refine J.pn ?_))
                refine J.slot 3 (.bool x.ok0) rfl (congrArg Value.bool ?_) ?_
                · simp [Nd.ok0, h5, h6]
                refine J.pick [3, 1] rfl ?_
                exact J.mid () trivial (fun _ _ h => h) rfl
            · have h5' : x.kind ≠ 2 := h5
              repeat' (first | refine wk ?_ | intro b | (refine J.op rfl ?_; refine J.isCallF ?_; refine J.call (H1 := []) (NodeIn _ _ _) rfl rfl rfl rfl ?_; rintro _ _ ⟨rfl, rfl⟩; refine J.pn ?_) | (refine J.want rfl rfl rfl ?_; refine J.isCallF ?_; refine J.call (H1 := []) (NodeIn _ _ _) rfl rfl rfl rfl ?_; rintro _ _ ⟨rfl, rfl⟩; refine J.pn ?_))
              refine J.slot 3 (.bool x.ok0) rfl (congrArg Value.bool ?_) ?_
              · simp [Nd.ok0, h1, h2, h3, h4, h5]
              refine J.pick [3, 1] rfl ?_
              exact J.mid () trivial (fun _ _ h => h) rfl
          · skip
            repeat' (first | refine wk ?_ | intro b | (refine J.op rfl ?_; refine J.isCallF ?_; refine J.call (H1 := []) (NodeIn _ _ _) rfl rfl rfl rfl ?_; rintro _ _ ⟨rfl, rfl⟩; refine J.pn ?_) | (refine J.want rfl rfl rfl ?_; refine J.isCallF ?_; refine J.call (H1 := []) (NodeIn _ _ _) rfl rfl rfl rfl ?_; rintro _ _ ⟨rfl, rfl⟩; refine J.pn ?_))
            refine J.slot 3 (.bool x.ok0) rfl (congrArg Value.bool ?_) ?_
            · simp [Nd.ok0, h4]
            refine J.pick [3, 1] rfl ?_
            exact J.mid () trivial (fun _ _ h => h) rfl
        · skip
          repeat' (first | refine wk ?_ | intro b | (refine J.op rfl ?_; refine J.isCallF ?_; refine J.call (H1 := []) (NodeIn _ _ _) rfl rfl rfl rfl ?_; rintro _ _ ⟨rfl, rfl⟩; refine J.pn ?_) | (refine J.want rfl rfl rfl ?_; refine J.isCallF ?_; refine J.call (H1 := []) (NodeIn _ _ _) rfl rfl rfl rfl ?_; rintro _ _ ⟨rfl, rfl⟩; refine J.pn ?_))
          refine J.slot 3 (.bool x.ok0) rfl (congrArg Value.bool ?_) ?_
          · simp [Nd.ok0, h3]
          refine J.pick [3, 1] rfl ?_
          exact J.mid () trivial (fun _ _ h => h) rfl
      · skip
        repeat' (first | refine wk ?_ | intro b | (refine J.op rfl ?_; refine J.isCallF ?_; refine J.call (H1 := []) (NodeIn _ _ _) rfl rfl rfl rfl ?_; rintro _ _ ⟨rfl, rfl⟩; refine J.pn ?_) | (refine J.want rfl rfl rfl ?_; refine J.isCallF ?_; refine J.call (H1 := []) (NodeIn _ _ _) rfl rfl rfl rfl ?_; rintro _ _ ⟨rfl, rfl⟩; refine J.pn ?_))
        refine J.slot 3 (.bool x.ok0) rfl (congrArg Value.bool ?_) ?_
        · simp [Nd.ok0, h2]
        refine J.pick [3, 1] rfl ?_
        exact J.mid () trivial (fun _ _ h => h) rfl
    · cases r with
      | true =>
        repeat' (first | refine wk ?_ | intro b | (refine J.op rfl ?_; refine J.isCallF ?_; refine J.call (H1 := []) (NodeIn _ _ _) rfl rfl rfl rfl ?_; rintro _ _ ⟨rfl, rfl⟩; refine J.pn ?_) | (refine J.want rfl rfl rfl ?_; refine J.isCallF ?_; refine J.call (H1 := []) (NodeIn _ _ _) rfl rfl rfl rfl ?_; rintro _ _ ⟨rfl, rfl⟩; refine J.pn ?_))
        refine J.slot 3 (.bool x.ok0) rfl (congrArg Value.bool ?_) ?_
        · simp [Nd.ok0, h1]
        refine J.pick [3, 1] rfl ?_
        exact J.mid () trivial (fun _ _ h => h) rfl
      | false =>
        repeat' (first | refine wk ?_ | intro b | (refine J.op rfl ?_; refine J.isCallF ?_; refine J.call (H1 := []) (NodeIn _ _ _) rfl rfl rfl rfl ?_; rintro _ _ ⟨rfl, rfl⟩; refine J.pn ?_) | (refine J.want rfl rfl rfl ?_; refine J.isCallF ?_; refine J.call (H1 := []) (NodeIn _ _ _) rfl rfl rfl rfl ?_; rintro _ _ ⟨rfl, rfl⟩; refine J.pn ?_))
        refine J.slot 3 (.bool x.ok0) rfl (congrArg Value.bool ?_) ?_
        · simp [Nd.ok0, h1]
        refine J.pick [3, 1] rfl ?_
        exact J.mid () trivial (fun _ _ h => h) rfl
end Go.Proofs.YF
namespace Go.Proofs.YF
open Go YE
attribute [local irreducible] CW LW OW XW AW PW HW RW AK HK AP HP DX CI LI OI BW RE MW J Gives
set_option maxHeartbeats 1000000
set_option maxRecDepth 20000

def nodeMark : ByteArray := ⟨#[66, 71, 78, 68]⟩
def nodeHead (x : Nd) : ByteArray := nodeMark ++ le x.num 1 ++ le x.kind 1 ++ le x.links 1 ++ le x.size 4 ++ le x.time 6
def nodeText (x : Nd) : ByteArray := nodeHead x ++ put2 x.ps ++ zeros 207
def nodeBlock (x : Nd) : ByteArray := nodeText x ++ le (crc 0 (nodeText x)) 4
theorem nodeHead_size (x : Nd) : (nodeHead x).size = 17 := by
  simp only [nodeHead, ByteArray.size_append, le_size]; rfl
theorem nodeText_size (x : Nd) (hp : x.ps.length = 14) : (nodeText x).size = 252 := by
  simp only [nodeText, ByteArray.size_append, nodeHead_size, put2_size, zeros_size, hp]
theorem nodeBlock_size (x : Nd) (hp : x.ps.length = 14) : (nodeBlock x).size = 256 := by
  simp only [nodeBlock, ByteArray.size_append, nodeText_size x hp, le_size]
theorem NodePut (x : Nd) (hp : x.ps.length = 14) (hok : x.okB = true) : Sp Tryz.prog 118 #[x.v] [] (Is (.tuple #[.string (nodeBlock x), .bool true])) := by
  refine Sp.intro Tryz.func118 rfl rfl rfl fun w K => ?_
  have hokk := hok
  simp only [Nd.okB, Bool.and_eq_true, decide_eq_true_eq, List.all_eq_true] at hokk
  obtain ⟨⟨⟨⟨⟨⟨g1, g2⟩, g3⟩, g4⟩, g5⟩, g6⟩, g7⟩ := hokk
  have hl19 : (x.cells.drop 0).take 19 = x.cells := by
    rw [List.drop_zero, List.take_of_length_le (by simp [hp])]
  refine J.seq ?_; refine J.region ?_
  refine J.op rfl ?_
  (refine wo ?_; (try intro b))
  (try refine wk ?_); (repeat (intro b; (try refine wk ?_)))
  refine J.op rfl ?_; refine J.isLoad ?_; refine J.give (Gives.loadA 0 rfl rfl rfl (by simp [Nd.cells, hp]) hl19) rfl rfl ?_
  (refine J.op rfl ?_; refine J.isCallF ?_; refine J.call (NodeCheck x hp) rfl rfl rfl rfl ?_; rintro _ _ ⟨rfl, rfl⟩; refine J.pn ?_)
  refine J.slot 8 (.bool true) rfl (congrArg Value.bool hok) ?_
  (try refine wk ?_); (repeat (intro b; (try refine wk ?_)))
  refine J.any Tryz.mixed [[(b, .cells x.cells 31 (0, 0))]] ?_
  refine J.tk 0 ?_
  (first | refine J.tk 1 ?_ | (refine J.tkO 1 ?_; first | refine J.giveT (Gives.strAdd rfl rfl rfl (by simp only [ByteArray.size_append, le_size]; decide)) rfl rfl ?_))
  refine J.tk 4 ?_
  (first | refine J.tk 5 ?_ | (refine J.tkO 5 ?_; first | refine J.giveT (Gives.strAdd rfl rfl rfl (by simp only [ByteArray.size_append, le_size]; decide)) rfl rfl ?_))
  refine J.tk 8 ?_
  (first | refine J.tk 9 ?_ | (refine J.tkO 9 ?_; first | refine J.giveT (Gives.strAdd rfl rfl rfl (by simp only [ByteArray.size_append, le_size]; decide)) rfl rfl ?_))
  refine J.tk 12 ?_
  (first | refine J.tk 13 ?_ | (refine J.tkO 13 ?_; first | refine J.giveT (Gives.strAdd rfl rfl rfl (by simp only [ByteArray.size_append, le_size]; decide)) rfl rfl ?_))
  refine J.tk 16 ?_
  (first | refine J.tk 17 ?_ | (refine J.tkO 17 ?_; first | refine J.giveT (Gives.strAdd rfl rfl rfl (by simp only [ByteArray.size_append, le_size]; decide)) rfl rfl ?_))
  refine J.on 2 ?_ -- call
  refine J.isCallF ?_; refine J.call (H1 := []) (BinPut _ _ (by omega) (by omega)) rfl rfl rfl rfl ?_
  rintro _ _ ⟨rfl, rfl⟩; refine J.put rfl ?_; refine J.nm ?_
  refine J.held (Sub.cons 0 rfl Sub.nil) ?_
  (first | refine J.tk 3 ?_ | (refine J.tkO 3 ?_; first | refine J.giveT (Gives.strAdd rfl rfl rfl (by simp only [ByteArray.size_append, le_size]; decide)) rfl rfl ?_))
  refine J.on 6 ?_ -- call
  refine J.isCallF ?_; refine J.call (H1 := []) (BinPut _ _ (by omega) (by omega)) rfl rfl rfl rfl ?_
  rintro _ _ ⟨rfl, rfl⟩; refine J.put rfl ?_; refine J.nm ?_
  refine J.held (Sub.cons 0 rfl Sub.nil) ?_
  (first | refine J.tk 7 ?_ | (refine J.tkO 7 ?_; first | refine J.giveT (Gives.strAdd rfl rfl rfl (by simp only [ByteArray.size_append, le_size]; decide)) rfl rfl ?_))
  refine J.on 10 ?_ -- call
  refine J.isCallF ?_; refine J.call (H1 := []) (BinPut _ _ (by omega) (by omega)) rfl rfl rfl rfl ?_
  rintro _ _ ⟨rfl, rfl⟩; refine J.put rfl ?_; refine J.nm ?_
  refine J.held (Sub.cons 0 rfl Sub.nil) ?_
  (first | refine J.tk 11 ?_ | (refine J.tkO 11 ?_; first | refine J.giveT (Gives.strAdd rfl rfl rfl (by simp only [ByteArray.size_append, le_size]; decide)) rfl rfl ?_))
  refine J.on 14 ?_ -- call
  refine J.isCallF ?_; refine J.call (H1 := []) (BinPut _ _ (by omega) (by omega)) rfl rfl rfl rfl ?_
  rintro _ _ ⟨rfl, rfl⟩; refine J.put rfl ?_; refine J.nm ?_
  refine J.held (Sub.cons 0 rfl Sub.nil) ?_
  (first | refine J.tk 15 ?_ | (refine J.tkO 15 ?_; first | refine J.giveT (Gives.strAdd rfl rfl rfl (by simp only [ByteArray.size_append, le_size]; decide)) rfl rfl ?_))
  refine J.on 18 ?_ -- call
  refine J.isCallF ?_; refine J.call (H1 := []) (BinPut _ _ (by omega) (by omega)) rfl rfl rfl rfl ?_
  rintro _ _ ⟨rfl, rfl⟩; refine J.put rfl ?_; refine J.nm ?_
  refine J.held (Sub.cons 0 rfl Sub.nil) ?_
  (first | refine J.tk 19 ?_ | (refine J.tkO 19 ?_; first | refine J.giveT (Gives.strAdd rfl rfl rfl (by simp only [ByteArray.size_append, le_size]; decide)) rfl rfl ?_))
  refine J.tk 20 ?_
  refine J.al ?_
  refine J.slot 4 (.string (nodeHead x)) rfl rfl ?_
  refine J.pick [1, 4] rfl ?_
  refine J.thenN ?_
  (try refine wk ?_); (repeat (intro b; (try refine wk ?_)))
  have hpsl : ((x.cells.drop 5).take 14) = ints x.ps := by
    simp only [Nd.cells, List.drop_append, List.length_cons, List.length_nil]
    simp only [List.drop_succ_cons, List.drop_nil, List.drop_zero, Nat.reduceAdd, Nat.sub_self, List.nil_append]
    rw [List.take_of_length_le (by simp [hp])]
  refine J.op rfl ?_; refine J.isLoad ?_; refine J.give (Gives.loadA 0 rfl rfl rfl (by simp [Nd.cells, hp]) hpsl) rfl rfl ?_
  (try refine wk ?_); (repeat (intro b; (try refine wk ?_)))
  refine J.slot 4 (.string (nodeHead x ++ put2 (x.ps.take 0))) rfl (congrArg Value.string (ByteArray.ext (by show (nodeHead x).data = (nodeHead x ++ ⟨#[]⟩ : ByteArray).data; rw [ByteArray.data_append]; simp))) ?_
  refine J.pick [4, 31, 32] rfl ?_
  refine J.clear ?_
  refine J.loop (α := Nat) (fun k => [(4, .string (nodeHead x ++ put2 (x.ps.take k))), (31, .agg (ints x.ps).toArray), (32, i64 k)]) (fun _ => []) (fun k => k ≤ 14) (fun k => 14 - k) 0 (Nat.zero_le _) (fun _ _ h => h) rfl (fun k hk => ?_)
  have hsz : (nodeHead x ++ put2 (x.ps.take k)).size = 17 + 2 * k := by
    rw [ByteArray.size_append, nodeHead_size, put2_size, List.length_take, hp]; omega
  by_cases hkn : k < 14
  · have hki : (k : Int) < 14 := by omega
    have hpk : x.ps[k]? = some (x.ps[k]'(by omega)) := by simp
    have hpm := g7 _ (List.mem_of_getElem? hpk)
    have htk : put2 (x.ps.take (k + 1)) = put2 (x.ps.take k) ++ le (x.ps[k]'(by omega)) 2 := by
      rw [List.take_succ_eq_append_getElem (by omega), put2_snoc]
    have hpk' : (ints x.ps)[(k : Int).toNat]? = some (i64 (x.ps[k]'(by omega))) := by simp
    have hrange : (0 : Int) ≤ k ∧ (k : Int) < (14 : Nat) := by omega
    generalize x.ps[k]'(by omega) = p at *
    (try refine wk ?_); (repeat (intro b; (try refine wk ?_)))
    refine J.op rfl ?_; refine J.isIndex ?_; refine J.give (Gives.indexA1 rfl rfl rfl hrange hpk') rfl rfl ?_
    (try refine wk ?_); (repeat (intro b; (try refine wk ?_)))
    (refine J.op rfl ?_; refine J.isCallF ?_; refine J.call (BinPut p 2 (by omega) (by omega)) rfl rfl rfl rfl ?_; rintro _ _ ⟨rfl, rfl⟩; refine J.pn ?_)
    refine J.op rfl ?_; refine J.isBin ?_; refine J.give (Gives.strAdd rfl rfl rfl (by rw [hsz, le_size]; show 17 + 2 * k + 2 ≤ _; omega)) rfl rfl ?_
    (try refine wk ?_); (repeat (intro b; (try refine wk ?_)))
    refine J.slot 4 (.string (nodeHead x ++ put2 (x.ps.take (k + 1)))) rfl (congrArg Value.string (by rw [htk, ByteArray.append_assoc]; rfl)) ?_
    refine J.pick [4, 31, 32] rfl ?_
    exact J.round (k + 1) hkn (by omega) (fun _ _ h => h) rfl
  · obtain rfl : 14 = k := by omega
    have htk : x.ps.take 14 = x.ps := List.take_of_length_le (by omega)
    rw [htk] at hsz ⊢
    (try refine wk ?_); (repeat (intro b; (try refine wk ?_)))
    refine J.slot 43 (i64 (207 : Nat)) rfl (by rw [hsz]; rfl) ?_
    (refine J.op rfl ?_; refine J.isCallF ?_; refine J.call (RepeatN _ zeros_one 207 (by omega) (by omega) Mul_207) rfl rfl rfl rfl ?_; rintro _ _ ⟨rfl, rfl⟩; refine J.pn ?_)
    refine J.op rfl ?_; refine J.isBin ?_; refine J.give (Gives.strAdd rfl rfl rfl (by rw [hsz, zeros_size]; decide)) rfl rfl ?_
    (try refine wk ?_); (repeat (intro b; (try refine wk ?_)))
    refine J.slot 4 (.string (nodeText x)) rfl rfl ?_
    have hts := nodeText_size x hp
    (try refine wk ?_); (repeat (intro b; (try refine wk ?_)))
    (refine J.op rfl ?_; refine J.isCallF ?_; refine J.call (CrcOf (nodeText x) (by omega)) rfl rfl rfl rfl ?_; rintro _ _ ⟨rfl, rfl⟩; refine J.pn ?_)
    (try refine wk ?_); (repeat (intro b; (try refine wk ?_)))
    refine J.slot 49 (i64 (crc 0 (nodeText x))) rfl (congrArg i64 (crc_i64 _ _)) ?_
    have hcr := crc_range 0 (nodeText x)
    (refine J.op rfl ?_; refine J.isCallF ?_; refine J.call (BinPut (crc 0 (nodeText x)) 4 (by omega) (by omega)) rfl rfl rfl rfl ?_; rintro _ _ ⟨rfl, rfl⟩; refine J.pn ?_)
    refine J.op rfl ?_; refine J.isBin ?_; refine J.give (Gives.strAdd rfl rfl rfl (by show (nodeText x).size + _ ≤ _; rw [hts, le_size]; decide)) rfl rfl ?_
    (try refine wk ?_); (repeat (intro b; (try refine wk ?_)))
    refine J.clear ?_; refine J.done_ret (res2 rfl rfl rfl) ?_
    exact ⟨rfl, rfl⟩
end Go.Proofs.YF
namespace Go.Proofs.YF
open Go YE
attribute [local irreducible] CW LW OW XW AW PW HW RW AK HK AP HP DX CI LI OI BW RE MW J Gives
set_option maxHeartbeats 1000000
set_option maxRecDepth 20000

/-- A list of texts that is read (one at least). -/
def Txts (v : Value) (ts : List ByteArray) (Hx : Heap) : Prop :=
  ∃ b k cap l e, v = slc b k ts.length cap ∧ Hx = [(b, .cells l e (0, 0))] ∧ (∀ (i : Nat) (h : i < ts.length), l[k + i]? = some (.string ts[i])) ∧ ts.length ≤ cap
def joinT (ts : List ByteArray) : ByteArray := ts.foldl (· ++ ·) ⟨#[]⟩
theorem joinT_snoc (ts : List ByteArray) (t : ByteArray) : joinT (ts ++ [t]) = joinT ts ++ t := by simp [joinT]
def tsum (ts : List ByteArray) : Nat := (ts.map (·.size)).sum
theorem tsum_snoc (ts : List ByteArray) (t : ByteArray) : tsum (ts ++ [t]) = tsum ts + t.size := by simp [tsum]
theorem joinT_from (ts : List ByteArray) : ∀ s : ByteArray, (ts.foldl (· ++ ·) s).size = s.size + tsum ts := by
  induction ts with
  | nil => intro s; simp [tsum]
  | cons t r ih => intro s; rw [List.foldl_cons, ih, ByteArray.size_append]; simp [tsum]; omega
theorem joinT_size (ts : List ByteArray) : (joinT ts).size = tsum ts := by
  rw [joinT, joinT_from]; exact Nat.zero_add _
theorem tsum_take_le (ts : List ByteArray) (k : Nat) : tsum (ts.take k) ≤ tsum ts := by
  have : tsum ts = tsum (ts.take k) + tsum (ts.drop k) := by
    conv => lhs; rw [← List.take_append_drop k ts]
    simp only [tsum, List.map_append, List.sum_append]
  omega
theorem append_nil' (s : ByteArray) : s ++ ⟨#[]⟩ = s := ByteArray.ext (by rw [ByteArray.data_append]; simp)
theorem nil_append' (s : ByteArray) : ⟨#[]⟩ ++ s = s := ByteArray.ext (by rw [ByteArray.data_append]; simp)

theorem Join (v : Value) (ts : List ByteArray) (Hx : Heap) (hv : Txts v ts Hx) (sep : ByteArray) (hsep : sep = ⟨#[]⟩) (hn : 1 ≤ ts.length) (hnn : ts.length ≤ 1000) (ht : tsum ts ≤ 100000) (h0 : 0 < tsum ts) :
    Sp Tryz.prog 226 #[v, .string sep] [Hx] (fun r H => r = .string (joinT ts) ∧ H = [Hx]) := by
  refine Sp.intro Tryz.func226 rfl rfl rfl fun w K => ?_
  obtain ⟨sb, k, cap, l, e, rfl, rfl, hl, hc⟩ := hv
  have hss : sep.size = 0 := by rw [hsep]; rfl
  have hn0 : ¬ (ts.length : Int) = 0 := by omega
  by_cases hn1 : ts.length = 1
  · have hn1' : (ts.length : Int) = 1 := by omega
    have hl0 : l[k + (0 : Int).toNat * 1]? = some (.string (joinT ts)) := by
      obtain ⟨t, rfl⟩ : ∃ t, ts = [t] := by
        match ts, hn1 with
        | [t], _ => exact ⟨t, rfl⟩
      have := hl 0 (by simp)
      simpa [joinT, nil_append'] using this
    have hi0 : (0 : Int) ≤ 0 ∧ (0 : Int) < ts.length := by omega
    (try refine wk ?_); (repeat (intro b; (try refine wk ?_)))
    refine J.op rfl ?_; refine J.isLoad ?_; refine J.give (Gives.load1 0 rfl rfl rfl hl0) rfl rfl ?_
    (try refine wk ?_); (repeat (intro b; (try refine wk ?_)))
    refine J.done_ret (res1 rfl rfl) ?_
    exact ⟨rfl, rfl⟩
  · have hn1' : ¬ (ts.length : Int) = 1 := by omega
    have htk : ∀ j (h : j < ts.length), ts.take (j + 1) = ts.take j ++ [ts[j]] := fun j h => List.take_succ_eq_append_getElem h
    (try refine wk ?_); (repeat (intro b; (try refine wk ?_)))
    refine J.slot 5 (i64 (tsum (ts.take 0))) rfl rfl ?_
    refine J.pick [0, 1, 5, 39, 40, 41] rfl ?_
    refine J.loop (α := Nat) (fun j => [(0, slc sb k ts.length cap), (1, .string sep), (5, i64 (tsum (ts.take j))), (39, slc sb k ts.length cap), (40, i64 ts.length), (41, i64 j)]) (fun _ => [[(sb, .cells l e (0, 0))]]) (fun j => j ≤ ts.length) (fun j => ts.length - j) 0 (Nat.zero_le _) (fun _ _ h => h) rfl (fun j hj => ?_)
    by_cases hjn : j < ts.length
    · have hji : (j : Int) < ts.length := by omega
      have hlj : l[k + (j : Int).toNat * 1]? = some (.string ts[j]) := by
        have := hl j hjn
        simpa using this
      have hrange : (0 : Int) ≤ j ∧ (j : Int) < ts.length := by omega
      have hsum : tsum (ts.take (j + 1)) = tsum (ts.take j) + (ts[j]).size := by rw [htk j hjn, tsum_snoc]
      have hle := tsum_take_le ts (j + 1)
      have hnb : ¬ ((ts[j]).size : Int) > 9223372036854775807 - (tsum (ts.take j) : Int) := by omega
      (try refine wk ?_); (repeat (intro b; (try refine wk ?_)))
      refine J.op rfl ?_; refine J.isLoad ?_; refine J.give (Gives.load1 0 rfl rfl rfl hlj) rfl rfl ?_
      (try refine wk ?_); (repeat (intro b; (try refine wk ?_)))
      refine J.slot 5 (i64 (tsum (ts.take (j + 1)))) rfl ?_ ?_
      · rw [hsum]; exact congrArg i64 (Int.natCast_add _ _).symm
      refine J.pick [0, 1, 5, 39, 40, 41] rfl ?_
      exact J.round (j + 1) hjn (by omega) (fun _ _ h => h) rfl
    · obtain rfl : ts.length = j := by omega
      rw [List.take_length]
      (try refine wk ?_); (repeat (intro b; (try refine wk ?_)))
      (refine J.op rfl ?_; refine J.isCallF ?_; refine J.call (H1 := [_]) (BGrow b (tsum ts) (by omega) h0) rfl rfl rfl rfl ?_)
      rintro _ _ ⟨bb, cs, hcs, rfl⟩; refine J.put rfl ?_; refine J.nm ?_
      (try refine wk ?_); (repeat (intro b; (try refine wk ?_)))
      have hl0 : l[k + (0 : Int).toNat * 1]? = some (.string ts[0]) := by
        have := hl 0 (by omega)
        simpa using this
      have hi0 : (0 : Int) ≤ 0 ∧ (0 : Int) < ts.length := by omega
      refine J.op rfl ?_; refine J.isLoad ?_; refine J.give (Gives.load1 2 rfl rfl rfl hl0) rfl rfl ?_
      have hj1 : joinT (ts.take 1) = ts[0] := by rw [htk 0 (by omega)]; simp [joinT, nil_append']
      have hs1 : tsum (ts.take 1) = (ts[0]).size := by rw [← hj1, joinT_size]
      have hle1 := tsum_take_le ts 1
      (refine J.op rfl ?_; refine J.isCallF ?_; refine J.call (H1 := [_, _]) (BWrite b bb cs.length 0 ⟨#[]⟩ ts[0] cs (by decide) (by omega) (by omega) (by show 0 + _ ≤ _; omega) (by show 0 + _ = _; omega)) rfl rfl rfl rfl ?_)
      rw [nil_append', ← hj1]
      rintro _ _ ⟨rest', hr', rfl⟩; refine J.put rfl ?_; refine J.nm ?_
      (try refine wk ?_); (repeat (intro b; (try refine wk ?_)))
      have hfr : (0 : Int) ≤ 1 ∧ (1 : Int) ≤ ts.length := by omega
      refine J.op rfl ?_; refine J.isSlice ?_; refine J.give (Gives.slcFrom rfl rfl rfl hfr (by omega)) rfl rfl ?_
      refine J.slot 63 (slc sb (k + 1) (ts.length - 1) (cap - 1)) rfl ?_ ?_
      · have : ¬ cap = (1 : Int).toNat := by show ¬ cap = 1; omega
        rw [if_neg this]; rfl
      (try refine wk ?_); (repeat (intro b; (try refine wk ?_)))
      refine J.slot 64 (i64 (ts.length - 1 : Nat)) rfl ?_ ?_
      · exact congrArg i64 (by omega)
      refine J.pick [1, 8, 63, 64, 65] rfl ?_
      refine J.loop (α := Nat × List Value) (fun x => [(1, .string sep), (8, ptr b 0), (63, slc sb (k + 1) (ts.length - 1) (cap - 1)), (64, i64 (ts.length - 1 : Nat)), (65, i64 x.1)]) (fun x => [[(b, .cells (bcell b bb (joinT (ts.take (x.1 + 1))).size cs.length) 240 (0, 0))], [(bb, .cells (bv (joinT (ts.take (x.1 + 1))) ++ x.2) 5 (0, 0))], [(sb, .cells l e (0, 0))]]) (fun x => x.1 + 1 ≤ ts.length ∧ (joinT (ts.take (x.1 + 1))).size + x.2.length = cs.length) (fun x => ts.length - x.1) (0, rest') ⟨by show 0 + 1 ≤ _; omega, hr'⟩ (fun _ _ h => h) rfl ?_
      rintro ⟨q, rest⟩ ⟨hq1, hq2⟩
      simp only at hq1 hq2
      have hle := tsum_take_le ts (q + 1)
      have hjs := joinT_size (ts.take (q + 1))
      by_cases hqn : q + 1 < ts.length
      · have hqi : (q : Int) < (ts.length - 1 : Nat) := by omega
        have hlq : l[k + 1 + (q : Int).toNat * 1]? = some (.string ts[q + 1]) := by
          have := hl (q + 1) hqn
          rw [← this]; congr 1; simp; omega
        have hrange : (0 : Int) ≤ q ∧ (q : Int) < (ts.length - 1 : Nat) := by omega
        have hle2 := tsum_take_le ts (q + 1 + 1)
        have hsum : tsum (ts.take (q + 1 + 1)) = tsum (ts.take (q + 1)) + (ts[q + 1]).size := by rw [htk (q + 1) hqn, tsum_snoc]
        have hjq : joinT (ts.take (q + 1)) ++ ts[q + 1] = joinT (ts.take (q + 1 + 1)) := by rw [htk (q + 1) hqn, joinT_snoc]
        (try refine wk ?_); (repeat (intro b; (try refine wk ?_)))
        refine J.op rfl ?_; refine J.isLoad ?_; refine J.give (Gives.load1 2 rfl rfl rfl hlq) rfl rfl ?_
        (try refine wk ?_); (repeat (intro b; (try refine wk ?_)))
        (refine J.op rfl ?_; refine J.isCallF ?_; refine J.call (H1 := [_, _]) (BWrite b bb cs.length 0 (joinT (ts.take (q + 1))) sep rest (by omega) (by omega) (by omega) (by omega) (by omega)) rfl rfl rfl rfl ?_)
        have es : joinT (ts.take (q + 1)) ++ sep = joinT (ts.take (q + 1)) := by rw [hsep, append_nil']
        rw [es]
        rintro _ _ ⟨rest2, hr2, rfl⟩; refine J.put rfl ?_; refine J.nm ?_
        (try refine wk ?_); (repeat (intro b; (try refine wk ?_)))
        (refine J.op rfl ?_; refine J.isCallF ?_; refine J.call (H1 := [_, _]) (BWrite b bb cs.length 0 (joinT (ts.take (q + 1))) ts[q + 1] rest2 (by omega) (by omega) (by omega) (by omega) (by omega)) rfl rfl rfl rfl ?_)
        rw [hjq]
        rintro _ _ ⟨rest3, hr3, rfl⟩; refine J.put rfl ?_; refine J.nm ?_
        (try refine wk ?_); (repeat (intro b; (try refine wk ?_)))
        refine J.pick [1, 8, 63, 64, 65] rfl ?_
        exact J.round (q + 1, rest3) ⟨by show q + 1 + 1 ≤ _; omega, hr3⟩ (by show ts.length - (q + 1) < ts.length - q; omega) (fun _ _ h => h) rfl
      · obtain rfl : ts.length - 1 = q := by omega
        have hee : ts.take (ts.length - 1 + 1) = ts := List.take_of_length_le (by omega)
        rw [hee] at hq2 hjs ⊢
        (try refine wk ?_); (repeat (intro b; (try refine wk ?_)))
        (refine J.op rfl ?_; refine J.isCallF ?_; refine J.call (H1 := [_, _]) (BString b bb cs.length 0 (joinT ts) rest (by omega) (by omega) (by omega) (by omega)) rfl rfl rfl rfl ?_)
        rintro _ _ ⟨rfl, rfl⟩; refine J.put rfl ?_; refine J.nm ?_
        (try refine wk ?_); (repeat (intro b; (try refine wk ?_)))
        refine J.front 2 rfl rfl ?_
        refine J.done_first 1 (res1 rfl rfl) rfl ?_
        exact ⟨rfl, rfl⟩
theorem ChunkJoin (v : Value) (ts : List ByteArray) (Hx : Heap) (hv : Txts v ts Hx) (hn : 1 ≤ ts.length) (hnn : ts.length ≤ 1000) (ht : tsum ts ≤ 100000) (h0 : 0 < tsum ts) :
    Sp Tryz.prog 189 #[v] [Hx] (fun r H => r = .string (joinT ts) ∧ H = [Hx]) := by
  refine Sp.intro Tryz.func189 rfl rfl rfl fun w K => ?_
  (try refine wk ?_); (repeat (intro b; (try refine wk ?_)))
  (refine J.op rfl ?_; refine J.isCallF ?_; refine J.call (H1 := [_]) (Join v ts Hx hv _ rfl hn hnn ht h0) rfl rfl rfl rfl ?_)
  rintro _ _ ⟨rfl, rfl⟩; refine J.put rfl ?_; refine J.nm ?_
  (try refine wk ?_); (repeat (intro b; (try refine wk ?_)))
  refine J.done_ret (res1 rfl rfl) ?_
  exact ⟨rfl, rfl⟩
/-- A chunk's text. -/
def chunkText (h : Hdv) (es : List Ent) (ts : List ByteArray) : ByteArray := headBlock h es (joinT ts) ++ joinT ts
theorem tsum_256 : ∀ (ts : List ByteArray), (∀ t, t ∈ ts → t.size = 256) → tsum ts = ts.length * 256
  | [], _ => rfl
  | t :: r, h => by
    have := tsum_256 r (fun u hu => h u (by simp [hu]))
    have h1 := h t (by simp)
    simp only [tsum, List.map_cons, List.sum_cons, List.length_cons] at this ⊢
    omega
theorem chunkText_size (h : Hdv) (es : List Ent) (ts : List ByteArray) (hn : es.length ≤ 24) (hts : ∀ t, t ∈ ts → t.size = 256) : (chunkText h es ts).size = 256 + ts.length * 256 := by
  rw [chunkText, ByteArray.size_append, headBlock_size h es _ hn, joinT_size, tsum_256 ts hts]
end Go.Proofs.YF
namespace Go.Proofs.YF
open Go YE
attribute [local irreducible] CW LW OW XW AW PW HW RW AK HK AP HP DX CI LI OI BW RE MW J Gives
set_option maxHeartbeats 1000000
set_option maxRecDepth 20000

theorem Make (h : Hdv) (ho : h.Ok) (lv : Value) (n : Nat) (es : List Ent) (Hl : Heap) (hl : Sl 131 3 lv n (ecells es) Hl) (hn : es.length ≤ 24) (he : ∀ e, e ∈ es → e.Ok)
    (v : Value) (ts : List ByteArray) (Hx : Heap) (hv : Txts v ts Hx) (hlen : ts.length = es.length) (h1 : 1 ≤ ts.length) (hts : ∀ t, t ∈ ts → t.size = 256) :
    Sp Tryz.prog 134 #[h.v lv, v] [Hl, Hx] (fun r H => r = .tuple #[.string (chunkText h es ts), .bool true] ∧ H = [Hl, Hx]) := by
  refine Sp.intro Tryz.func134 rfl rfl rfl fun w K => ?_
  have hv0 := hv
  obtain ⟨sb, k, cap, l, e, rfl, rfl, hlx, hc⟩ := hv
  obtain ⟨p, cc, rfl⟩ := Sl.slice hl
  have hsum := tsum_256 ts hts
  refine J.seq ?_; refine J.region ?_
  refine J.op rfl ?_
  (refine wo ?_; (try intro b))
  (try refine wk ?_); (repeat (intro b; (try refine wk ?_)))
  refine J.pick [1, 2, 11, 12, 13] rfl ?_
  refine J.loop (α := Nat) (fun j => [(1, slc sb k ts.length cap), (2, ptr b 0), (11, slc sb k ts.length cap), (12, i64 ts.length), (13, i64 j)]) (fun _ => [[(b, .cells (h.cells (.slice p n cc)) 95 (0, 0))], Hl, [(sb, .cells l e (0, 0))]]) (fun j => j ≤ ts.length) (fun j => ts.length - j) 0 (Nat.zero_le _) (fun _ _ h => h) rfl (fun j hj => ?_)
  by_cases hjn : j < ts.length
  · have hji : (j : Int) < ts.length := by omega
    have hlj : l[k + (j : Int).toNat * 1]? = some (.string ts[j]) := by
      have := hlx j hjn
      simpa using this
    have hrange : (0 : Int) ≤ j ∧ (j : Int) < ts.length := by omega
    have hz : ¬ ((ts[j]).size : Int) ≠ 256 := by
      have := hts _ (List.getElem_mem hjn)
      omega
    (try refine wk ?_); (repeat (intro b; (try refine wk ?_)))
    refine J.op rfl ?_; refine J.isLoad ?_; refine J.give (Gives.load1 2 rfl rfl rfl hlj) rfl rfl ?_
    (try refine wk ?_); (repeat (intro b; (try refine wk ?_)))
    refine J.pick [1, 2, 11, 12, 13] rfl ?_
    exact J.round (j + 1) hjn (by omega) (fun _ _ h => h) rfl
  · obtain rfl : ts.length = j := by omega
    (try refine wk ?_); (repeat (intro b; (try refine wk ?_)))
    refine J.front 2 rfl rfl ?_
    (refine J.op rfl ?_; refine J.isCallF ?_; refine J.call (H1 := [_]) (ChunkJoin _ ts _ hv0 h1 (by omega) (by omega) (by omega)) rfl rfl rfl rfl ?_)
    rintro _ _ ⟨rfl, rfl⟩; refine J.put rfl ?_; refine J.nm ?_
    (try refine wk ?_); (repeat (intro b; (try refine wk ?_)))
    refine J.front 2 rfl rfl ?_
    (refine J.op rfl ?_; refine J.isCallF ?_; refine J.call (H1 := [_]) (HeadPut h ho _ n es Hl hl hn he (joinT ts) (by rw [joinT_size, hsum, hlen])) rfl rfl rfl rfl ?_)
    rintro _ _ ⟨rfl, rfl⟩; refine J.put rfl ?_; refine J.nm ?_
    (try refine wk ?_); (repeat (intro b; (try refine wk ?_)))
    have hbs := headBlock_size h es (joinT ts) hn
    refine J.op rfl ?_; refine J.isBuildSlice ?_; refine J.buildSl [.string (headBlock h es (joinT ts)), .string (joinT ts)] (cs := [.string (headBlock h es (joinT ts)), .string (joinT ts)]) rfl rfl rfl rfl rfl (fun v hv => by
      rcases List.mem_cons.1 hv with rfl | hv
      · rfl
      · rw [List.mem_singleton.1 hv]; rfl) rfl rfl rfl ?_
    intro b2
    have hv2 : Txts (slc b2 0 2 2) [headBlock h es (joinT ts), joinT ts] [(b2, .cells [.string (headBlock h es (joinT ts)), .string (joinT ts)] 9 (0, 0))] :=
      ⟨b2, 0, 2, _, 9, rfl, rfl, fun i hi => by
        match i, hi with
        | 0, _ => rfl
        | 1, _ => rfl, Nat.le_refl 2⟩
    have hs2 : tsum [headBlock h es (joinT ts), joinT ts] = 256 + ts.length * 256 := by simp [tsum, hbs, joinT_size]; exact hsum
    have hj2 : joinT [headBlock h es (joinT ts), joinT ts] = chunkText h es ts := by simp [joinT, chunkText, nil_append']
    (refine J.op rfl ?_; refine J.isCallF ?_; refine J.call (H1 := [_]) (ChunkJoin _ _ _ hv2 (Nat.le_succ 1) (by show 2 ≤ 1000; omega) (by omega) (by omega)) rfl rfl rfl rfl ?_)
    rw [hj2]
    rintro _ _ ⟨rfl, rfl⟩; refine J.put rfl ?_; refine J.nm ?_
    (try refine wk ?_); (repeat (intro b; (try refine wk ?_)))
    refine J.drop 0 ?_
    refine J.first 2 rfl ?_
    refine J.done_ret (res2 rfl rfl rfl) ?_
    exact ⟨rfl, rfl⟩
end Go.Proofs.YF
namespace Go.Proofs.YF
open Go YE
attribute [local irreducible] CW LW OW XW AW PW HW RW AK HK AP HP DX CI LI OI BW RE MW J Gives
set_option maxHeartbeats 1000000
set_option maxRecDepth 20000

theorem PutAt (bl ba bs lb d N : Nat) (gen : Int) (x : Slv) (fv : Value) (a i : Int) (s : ByteArray) (t : Rest) (db S : Nat) (wv : Value) (wr : Int) (n : Nat) (ws : List (Int × Int × ByteArray)) (Hw : Heap)
    (hi : 0 ≤ i ∧ i ≤ 30) (ha : 0 ≤ a ∧ a + i < S) (hS : S ≤ 20000) (hs : (i + 1) * 256 ≤ s.size) (hw : Sl 139 258 wv n (wcells ws) Hw) (hn : n ≤ 1000000) (hwr : 0 ≤ wr ∧ wr ≤ 1000000000) :
    Sp Tryz.prog 135 #[i64 i, ptr bl 0, ptr ba 0, ptr bs 0] [[(bl, .cells [ptr lb 0] 88 (0, 0))], [(ba, .cells [i64 a] 3 (0, 0))], [(bs, .cells [.string s] 9 (0, 0))], [(lb, .cells (lcell d N gen x fv) 190 (0, 0))], [(d, .cells (dcell t db S wv wr) 114 (0, 0))], Hw]
      (fun v H => v = .bool true ∧ ∃ wv' Hw', Sl 139 258 wv' (n + 1) (wcells (ws ++ [(wr, a + i, s.extract (i * 256).toNat ((i + 1) * 256).toNat)])) Hw' ∧
        H = [[(bl, .cells [ptr lb 0] 88 (0, 0))], [(ba, .cells [i64 a] 3 (0, 0))], [(bs, .cells [.string s] 9 (0, 0))], [(lb, .cells (lcell d N gen x fv) 190 (0, 0))], [(d, .cells (dcell t db S wv' (wr + 1)) 114 (0, 0))], Hw']) := by
  refine Sp.intro Tryz.func135 rfl rfl rfl fun w K => ?_
  have hb : (0 : Int) ≤ i * 256 ∧ i * 256 ≤ (i + 1) * 256 ∧ (i + 1) * 256 ≤ s.size := by omega
  (try refine wk ?_); (repeat (intro b; (try refine wk ?_)))
  refine J.any Tryz.mixed [[(bl, .cells [ptr lb 0] 88 (0, 0))], [(ba, .cells [i64 a] 3 (0, 0))], [(bs, .cells [.string s] 9 (0, 0))], [(lb, .cells (lcell d N gen x fv) 190 (0, 0))]] ?_
  (first | refine J.tk 0 ?_ | (refine J.tkO 0 ?_; first | refine J.giveT (Gives.strSl rfl rfl rfl rfl hb) rfl rfl ?_))
  refine J.tk 1 ?_
  refine J.tk 2 ?_
  refine J.tk 3 ?_
  (first | refine J.tk 4 ?_ | (refine J.tkO 4 ?_; first | refine J.giveT (Gives.strSl rfl rfl rfl rfl hb) rfl rfl ?_))
  (first | refine J.tk 5 ?_ | (refine J.tkO 5 ?_; first | refine J.giveT (Gives.strSl rfl rfl rfl rfl hb) rfl rfl ?_))
  refine J.tk 6 ?_
  refine J.tk 7 ?_
  (first | refine J.tk 8 ?_ | (refine J.tkO 8 ?_; first | refine J.giveT (Gives.strSl rfl rfl rfl rfl hb) rfl rfl ?_))
  (first | refine J.tk 9 ?_ | (refine J.tkO 9 ?_; first | refine J.giveT (Gives.strSl rfl rfl rfl rfl hb) rfl rfl ?_))
  refine J.tk 10 ?_
  (first | refine J.tk 11 ?_ | (refine J.tkO 11 ?_; first | refine J.giveT (Gives.strSl rfl rfl rfl rfl hb) rfl rfl ?_))
  (first | refine J.tk 12 ?_ | (refine J.tkO 12 ?_; first | refine J.giveT (Gives.strSl rfl rfl rfl rfl hb) rfl rfl ?_))
  refine J.tk 13 ?_
  (first | refine J.tk 14 ?_ | (refine J.tkO 14 ?_; first | refine J.giveT (Gives.strSl rfl rfl rfl rfl hb) rfl rfl ?_))
  refine J.tk 15 ?_
  (first | refine J.tk 16 ?_ | (refine J.tkO 16 ?_; first | refine J.giveT (Gives.strSl rfl rfl rfl rfl hb) rfl rfl ?_))
  (first | refine J.tk 17 ?_ | (refine J.tkO 17 ?_; first | refine J.giveT (Gives.strSl rfl rfl rfl rfl hb) rfl rfl ?_))
  (first | refine J.tk 18 ?_ | (refine J.tkO 18 ?_; first | refine J.giveT (Gives.strSl rfl rfl rfl rfl hb) rfl rfl ?_))
  refine J.on 19 ?_ -- call
  refine J.front 4 rfl rfl ?_
  refine J.front 5 rfl rfl ?_
  refine J.front 1 rfl rfl ?_
  refine J.nm ?_
  refine J.isCallF ?_; refine J.call (H1 := [_, _]) (Write d t db S wv wr (a + i) (s.extract (i * 256).toNat ((i + 1) * 256).toNat) n ws Hw ⟨by omega, by omega⟩ (by rw [ByteArray.size_extract]; omega) hw hn hwr) rfl rfl rfl rfl ?_
  rintro _ _ ⟨rfl, wv', Hw', hw', rfl⟩; refine J.put rfl ?_; refine J.nm ?_
  refine J.held (Sub.cons 2 rfl (Sub.cons 3 rfl (Sub.cons 4 rfl (Sub.cons 5 rfl Sub.nil)))) ?_
  refine J.tk 20 ?_
  refine J.al ?_
  (try refine wk ?_); (repeat (intro b; (try refine wk ?_)))
  refine J.perm (H' := [[(bl, .cells [ptr lb 0] 88 (0, 0))], [(ba, .cells [i64 a] 3 (0, 0))], [(bs, .cells [.string s] 9 (0, 0))], [(lb, .cells (lcell d N gen x fv) 190 (0, 0))], [(d, .cells (dcell t db S wv' (wr + 1)) 114 (0, 0))], Hw']) ?_ ?_
  · exact List.perm_append_comm (l₁ := [[(bl, HO.cells [ptr lb 0] 88 (0, 0))], [(ba, HO.cells [i64 a] 3 (0, 0))], [(bs, HO.cells [.string s] 9 (0, 0))], [(lb, HO.cells (lcell d N gen x fv) 190 (0, 0))]]) (l₂ := [[(d, HO.cells (dcell t db S wv' (wr + 1)) 114 (0, 0))], Hw'])
  refine J.done_ret (res1 rfl rfl) ?_
  exact ⟨rfl, wv', Hw', hw', rfl⟩
end Go.Proofs.YF
namespace Go.Proofs.YF
open Go YE
attribute [local irreducible] CW LW OW XW AW PW HW RW AK HK AP HP DX CI LI OI BW RE MW J Gives
set_option maxHeartbeats 1000000
set_option maxRecDepth 20000

/-- Where the next chunk stands, what is free behind it. -/
def NextOk (x : Slv) (n : Int) (xs : List Int) (x' : Slv) (xs' : List Int) : Prop :=
  (x.pos + n ≤ 32 ∧ x' = x ∧ xs' = xs) ∨ (¬ x.pos + n ≤ 32 ∧ xs = x'.next :: xs' ∧ x' = { x with seg := x.next, pos := 0, next := x'.next })
theorem NextIs.ok {x : Slv} {n : Int} {fv : Value} {xs : List Int} {Hf : Heap} {v : Value} (h : NextIs x n fv xs Hf v) (hf : Ints fv xs Hf) {x' : Slv} {xs' : List Int} (ho : NextOk x n xs x' xs') : ∃ fv', Ints fv' xs' Hf ∧ v = .tuple #[x'.v, fv', .bool true] := by
  rcases ho with ⟨h1, rfl, rfl⟩ | ⟨h1, h2, h3⟩
  · rcases h with ⟨_, rfl⟩ | ⟨h2, _⟩ | ⟨h2, _⟩
    · exact ⟨fv, hf, rfl⟩
    · exact absurd h1 h2
    · exact absurd h1 h2
  · rcases h with ⟨h4, _⟩ | ⟨_, h4, _⟩ | ⟨_, y, ys, fv', h4, h5, rfl⟩
    · exact absurd h4 h1
    · rw [h4] at h2; cases h2
    · rw [h4] at h2
      obtain ⟨rfl, rfl⟩ := List.cons.inj h2
      exact ⟨fv', h5, by rw [← h3]⟩
/-- A head as a log writes it. -/
def Hdv.at (h : Hdv) (gen : Int) (x : Slv) : Hdv := { h with house := 2, gen := gen, life := x.life, seq := x.seq, next := x.next }
def Slv.behind (x : Slv) (h : Hdv) (n : Int) : Slv := { x with pos := x.pos + n, seq := x.seq + 1, clock := h.clock, sb := h.sb, sn := h.sn }
theorem Ints.one {v : Value} {xs : List Int} {Hx : Heap} (h : Ints v xs Hx) : v.oneCell' = true := by
  rcases h with ⟨rfl, _⟩ | ⟨_, _, _, _, _, rfl, _⟩ <;> rfl

theorem bv_inj {s t : ByteArray} (h : bv s = bv t) : s = t := by
  unfold bv at h
  apply ByteArray.ext
  apply Array.ext'
  refine (List.map_inj_right (fun x y h => ?_)).1 h
  simp only [Value.int.injEq, true_and, Int.ofNat_inj] at h
  exact UInt8.toNat_inj.1 h
theorem bv_extract (s : ByteArray) (a b : Nat) : bv (s.extract a b) = ((bv s).drop a).take (b - a) := by
  unfold bv
  rw [ByteArray.data_extract, Array.toList_extract]
  simp [List.extract, List.map_take, List.map_drop]
theorem bv_joinT (ts : List ByteArray) : bv (joinT ts) = ts.flatMap bv := by
  have h : ∀ s : ByteArray, bv (ts.foldl (· ++ ·) s) = bv s ++ ts.flatMap bv := by
    induction ts with
    | nil => intro s; simp
    | cons t r ih => intro s; rw [List.foldl_cons, ih, bv_append]; simp
  rw [joinT, h]; simp [bv]
theorem chunk_head (h : Hdv) (es : List Ent) (ts : List ByteArray) (hn : es.length ≤ 24) : (chunkText h es ts).extract 0 256 = headBlock h es (joinT ts) := by
  apply bv_inj
  rw [bv_extract, chunkText, bv_append, List.drop_zero]
  have : (bv (headBlock h es (joinT ts))).length = 256 - 0 := by rw [bv_len, headBlock_size h es _ hn]
  rw [← this]; exact List.take_left
theorem chunk_block (h : Hdv) (es : List Ent) (ts : List ByteArray) (hn : es.length ≤ 24) (hts : ∀ t, t ∈ ts → t.size = 256) (k : Nat) (hk : k < ts.length) : (chunkText h es ts).extract ((k + 1) * 256) ((k + 1 + 1) * 256) = ts[k] := by
  apply bv_inj
  rw [bv_extract, chunkText, bv_append, bv_joinT]
  have h1 : (k + 1) * 256 = (bv (headBlock h es (joinT ts))).length + k * 256 := by rw [bv_len, headBlock_size h es _ hn]; omega
  have h2 : (k + 1 + 1) * 256 - (k + 1) * 256 = 256 := by omega
  rw [h2, h1, ← List.drop_drop, List.drop_left]
  have := flat_take (f := bv) (m := 256) ts k ts[k] [] (fun t ht => by rw [bv_len, hts t ht]) (List.getElem?_eq_getElem hk)
  simpa using this
/-- The writes of a chunk's blocks. -/
def pwt (a wr : Int) (ts : List ByteArray) : List (Int × Int × ByteArray) := (ts.zipIdx 0).map fun q => (wr + (q.2 : Nat), a + 1 + (q.2 : Nat), q.1)
theorem pwt_take (a wr : Int) (ts : List ByteArray) (k : Nat) (h : k < ts.length) : pwt a wr (ts.take (k + 1)) = pwt a wr (ts.take k) ++ [(wr + (k : Nat), a + 1 + (k : Nat), ts[k])] := by
  rw [List.take_succ_eq_append_getElem h]
  simp only [pwt, List.zipIdx_append, List.map_append, List.length_take]
  have : min k ts.length = k := by omega
  simp [this]
theorem Append (lb d N : Nat) (gen : Int) (x : Slv) (fv : Value) (xs : List Int) (Hf : Heap) (hf : Ints fv xs Hf) (hxs : xs.length ≤ 100000) (hx : 0 ≤ x.pos ∧ x.pos ≤ 32)
    (t : Rest) (db S : Nat) (wv : Value) (wr : Int) (n : Nat) (ws : List (Int × Int × ByteArray)) (Hw : Heap) (D : List ByteArray) (hD : Secs S D) (hwo : Wok S ws) (hw : Sl 139 258 wv n (wcells ws) Hw) (hn : n ≤ 100000) (hwr : 0 ≤ wr ∧ wr ≤ 100000000)
    (hd : Hdv) (lv : Value) (nE : Nat) (es : List Ent) (Hl : Heap) (hl : Sl 131 3 lv nE (ecells es) Hl) (hes : es.length ≤ 24) (he : ∀ e, e ∈ es → e.Ok)
    (v : Value) (ts : List ByteArray) (Hx : Heap) (hv : Txts v ts Hx) (hlen : ts.length = es.length) (h1 : 1 ≤ ts.length) (hts : ∀ t, t ∈ ts → t.size = 256)
    (x' : Slv) (xs' : List Int) (hnx : NextOk x (1 + ts.length) xs x' xs') (hseg : 0 ≤ x'.seg ∧ x'.seg < N) (hpos : 0 ≤ x'.pos ∧ x'.pos + (1 + ts.length) ≤ 32) (hN : 8 ≤ N ∧ N ≤ 500) (hS : S = 48 + 32 * N) (hok : (hd.at gen x').Ok) (hseq : x'.seq ≤ 1000000000) :
    Sp Tryz.prog 89 #[ptr lb 0, hd.v lv, v] [[(lb, .cells (lcell d N gen x fv) 190 (0, 0))], Hf, [(d, .cells (dcell t db S wv wr) 114 (0, 0))], [(db, .cells (dcells D) 137 (0, 0))], Hw, Hl, Hx]
      (fun r H => ∃ sv m Hs fv' wv' Hw', r = .tuple #[sv, .bool true] ∧ Sl 3 1 sv m (ints ((List.range ts.length).map fun j => 48 + 32 * x'.seg + x'.pos + 1 + (j : Nat))) Hs ∧ Ints fv' xs' Hf ∧
        Sl 139 258 wv' 1 (wcells [(wr + ts.length, 48 + 32 * x'.seg + x'.pos, headBlock (hd.at gen x') es (joinT ts))]) Hw' ∧
        H = [[(lb, .cells (lcell d N gen (x'.behind hd (1 + ts.length)) fv') 190 (0, 0))], Hf, [(d, .cells (dcell t db S wv' (wr + ts.length + 1)) 114 (0, 0))], [(db, .cells (dcells (flush D (ws ++ pwt (48 + 32 * x'.seg + x'.pos) wr ts))) 137 (0, 0))], Hw', Hl, Hx, Hs]) := by
  refine Sp.intro Tryz.func89 rfl rfl rfl fun w K => ?_
  have hv0 := hv
  obtain ⟨sb, sk, scap, sl, se, rfl, rfl, hlx, hsc⟩ := hv
  obtain ⟨lp, lc, rfl⟩ := Sl.slice hl
  refine J.seq ?_; refine J.region ?_
  refine J.op rfl ?_
  (refine wo ?_; (try intro b))
  obtain ⟨bl, rfl⟩ : ∃ q, q = b := ⟨b, rfl⟩
  refine J.op rfl ?_
  (refine wo ?_; (try intro b))
  obtain ⟨bh, rfl⟩ : ∃ q, q = b := ⟨b, rfl⟩
  (try refine wk ?_); (repeat (intro b; (try refine wk ?_)))
  refine J.front 1 rfl rfl ?_
  refine J.front 1 rfl rfl ?_
  refine J.front 3 rfl rfl ?_
  refine J.front 3 rfl rfl ?_
  refine J.nm ?_
  (refine J.op rfl ?_; refine J.isCallF ?_; refine J.call (H1 := [_, _]) (Next lb d N gen x fv xs Hf hf (1 + (ts.length : Int)) hx (by omega) hxs) rfl rfl rfl rfl ?_)
  rintro _ _ ⟨hnext, rfl⟩
  obtain ⟨fv', hf', rfl⟩ := hnext.ok hf hnx
  refine J.put rfl ?_; refine J.nm ?_
  have hf1 := hf'.one
  (try refine wk ?_); (repeat (intro b; (try refine wk ?_)))
  obtain ⟨bx, rfl⟩ : ∃ q, q = b := ⟨b, rfl⟩
  refine J.any Tryz.mixed [[(lb, .cells (lcell d N gen x fv) 190 (0, 0))], [(bx, .cells x'.cells 57 (0, 0))], [(bl, .cells [ptr lb 0] 88 (0, 0))]] ?_
  refine J.tk 0 ?_
  refine J.tk 1 ?_
  refine J.tk 2 ?_
  refine J.tk 3 ?_
  refine J.tk 4 ?_
  refine J.tk 5 ?_
  refine J.tk 6 ?_
  refine J.on 7 ?_ -- call
  refine J.isCallF ?_; refine J.call (H1 := []) (Start N x'.seg (by omega) (by omega)) rfl rfl rfl rfl ?_
  rintro _ _ ⟨rfl, rfl⟩; refine J.pn ?_
  refine J.hd ?_
  refine J.tk 8 ?_
  refine J.al ?_
  have hst : start N x'.seg = 48 + 32 * x'.seg := by unfold start; rw [if_pos (by omega)]; omega
  refine J.slot 12 (i64 (48 + 32 * x'.seg)) rfl (congrArg i64 hst) ?_
  have hne0 : ¬ 48 + 32 * x'.seg = 0 := by omega
  (try refine wk ?_); (repeat (intro b; (try refine wk ?_)))
  refine J.any Tryz.mixed [[(lb, .cells (lcell d N gen x fv) 190 (0, 0))], [(bx, .cells x'.cells 57 (0, 0))], [(bl, .cells [ptr lb 0] 88 (0, 0))]] ?_
  refine J.tk 0 ?_
  refine J.tk 1 ?_
  refine J.tk 2 ?_
  refine J.tk 3 ?_
  refine J.tk 4 ?_
  refine J.tk 5 ?_
  refine J.tk 6 ?_
  refine J.tk 7 ?_
  refine J.tk 8 ?_
  refine J.tk 9 ?_
  refine J.tk 10 ?_
  refine J.tk 11 ?_
  refine J.tk 12 ?_
  refine J.tk 13 ?_
  refine J.tk 14 ?_
  refine J.on 15 ?_ -- store
  (refine wo ?_; (try intro b))
  refine J.hd ?_
  refine J.tk 16 ?_
  refine J.on 17 ?_ -- store
  (refine wo ?_; (try intro b))
  refine J.hd ?_
  refine J.tk 18 ?_
  refine J.on 19 ?_ -- store
  (refine wo ?_; (try intro b))
  refine J.hd ?_
  refine J.tk 20 ?_
  refine J.on 21 ?_ -- store
  (refine wo ?_; (try intro b))
  refine J.hd ?_
  refine J.tk 22 ?_
  refine J.on 23 ?_ -- store
  (refine wo ?_; (try intro b))
  refine J.hd ?_
  refine J.al ?_
  (try refine wk ?_); (repeat (intro b; (try refine wk ?_)))
  refine J.front 7 rfl rfl ?_
  refine J.front 7 rfl rfl ?_
  refine J.front 7 rfl rfl ?_
  refine J.front 7 rfl rfl ?_
  refine J.front 7 rfl rfl ?_
  refine J.front 7 rfl rfl ?_
  refine J.front 7 rfl rfl ?_
  refine J.front 7 rfl rfl ?_
  refine J.front 9 rfl rfl ?_
  refine J.front 9 rfl rfl ?_
  refine J.nm ?_
  (refine J.op rfl ?_; refine J.isCallF ?_; refine J.call (H1 := [_, _]) (Make (hd.at gen x') hok _ nE es Hl hl hes he _ ts _ hv0 hlen h1 hts) rfl rfl rfl rfl ?_)
  rintro _ _ ⟨rfl, rfl⟩; refine J.pn ?_
  obtain ⟨text, htext⟩ : ∃ s, s = chunkText (hd.at gen x') es ts := ⟨_, rfl⟩
  rw [← htext]
  have hpn : ¬ x'.pos + (1 + (ts.length : Int)) > 32 := by omega
  (try refine wk ?_); (repeat (intro b; (try refine wk ?_)))
  obtain ⟨bs, rfl⟩ : ∃ q, q = b := ⟨b, rfl⟩
  refine J.any Tryz.mixed [[(lb, .cells (lcell d N gen x fv) 190 (0, 0))], [(bx, .cells x'.cells 57 (0, 0))], [(bl, .cells [ptr lb 0] 88 (0, 0))]] ?_
  refine J.tk 0 ?_
  refine J.tk 1 ?_
  refine J.tk 2 ?_
  (first | refine J.tkW 3 ?_ | refine J.tkE 3 ?_ | refine J.tkN 3 ?_ | refine J.tkX 3 ?_ | refine J.tkU 3 ?_)
  (first | refine J.tkW 4 ?_ | refine J.tkE 4 ?_ | refine J.tkN 4 ?_ | refine J.tkX 4 ?_ | refine J.tkU 4 ?_)
  (first | refine J.tkW 5 ?_ | refine J.tkE 5 ?_ | refine J.tkN 5 ?_ | refine J.tkX 5 ?_ | refine J.tkU 5 ?_)
  (first | refine J.tkW 6 ?_ | refine J.tkE 6 ?_ | refine J.tkN 6 ?_ | refine J.tkX 6 ?_ | refine J.tkU 6 ?_)
  (first | refine J.tkW 7 ?_ | refine J.tkE 7 ?_ | refine J.tkN 7 ?_ | refine J.tkX 7 ?_ | refine J.tkU 7 ?_)
  (first | refine J.tkW 8 ?_ | refine J.tkE 8 ?_ | refine J.tkN 8 ?_ | refine J.tkX 8 ?_ | refine J.tkU 8 ?_)
  (first | refine J.tkW 9 ?_ | refine J.tkE 9 ?_ | refine J.tkN 9 ?_ | refine J.tkX 9 ?_ | refine J.tkU 9 ?_)
  (first | refine J.tkW 10 ?_ | refine J.tkE 10 ?_ | refine J.tkN 10 ?_ | refine J.tkX 10 ?_ | refine J.tkU 10 ?_)
  (first | refine J.tkW 11 ?_ | refine J.tkE 11 ?_ | refine J.tkN 11 ?_ | refine J.tkX 11 ?_ | refine J.tkU 11 ?_)
  (first | refine J.tkW 12 ?_ | refine J.tkE 12 ?_ | refine J.tkN 12 ?_ | refine J.tkX 12 ?_ | refine J.tkU 12 ?_)
  (first | refine J.tkW 13 ?_ | refine J.tkE 13 ?_ | refine J.tkN 13 ?_ | refine J.tkX 13 ?_ | refine J.tkU 13 ?_)
  refine J.tk 14 ?_
  refine J.al ?_
  (try refine wk ?_); (repeat (intro b; (try refine wk ?_)))
  obtain ⟨ba, rfl⟩ : ∃ q, q = b := ⟨b, rfl⟩
  obtain ⟨a, ha⟩ : ∃ a, a = 48 + 32 * x'.seg + x'.pos := ⟨_, rfl⟩
  rw [← ha]
  have hnn : ts.length ≤ 24 := by omega
  have htext2 : text.size = 256 + ts.length * 256 := by rw [htext]; exact chunkText_size _ es ts hes hts
  refine J.front 3 rfl rfl ?_
  refine J.front 3 rfl rfl ?_
  refine J.front 10 rfl rfl ?_
  refine J.front 8 rfl rfl ?_
  refine J.front 8 rfl rfl ?_
  refine J.front 7 rfl rfl ?_
  refine J.front 11 rfl rfl ?_
  refine J.front 11 rfl rfl ?_
  refine J.front 10 rfl rfl ?_
  refine J.front 10 rfl rfl ?_
  refine J.front 10 rfl rfl ?_
  refine J.front 11 rfl rfl ?_
  refine J.nm ?_
  refine J.pick [3, 4, 8, 9, 10, 14, 15, 16, 17] rfl ?_
  refine J.loop (α := Nat × Value × Heap × Value × Heap)
    (fun y => [(3, ptr bl 0), (4, ptr bh 0), (8, i64 (1 + ts.length)), (9, ptr bx 0), (10, fv'), (14, y.2.1), (15, ptr ba 0), (16, .func (.func 135) #[] #[ptr bl 0, ptr ba 0, ptr bs 0]), (17, i64 (1 + y.1))])
    (fun y => [y.2.2.1, [(bl, .cells [ptr lb 0] 88 (0, 0))], [(ba, .cells [i64 a] 3 (0, 0))], [(bs, .cells [.string text] 9 (0, 0))], [(lb, .cells (lcell d N gen x fv) 190 (0, 0))], [(d, .cells (dcell t db S y.2.2.2.1 (wr + y.1)) 114 (0, 0))], y.2.2.2.2, [(bx, .cells x'.cells 57 (0, 0))], Hf, [(bh, .cells ((hd.at gen x').cells (.slice lp nE lc)) 95 (0, 0))], [(db, .cells (dcells D) 137 (0, 0))], Hl, [(sb, .cells sl se (0, 0))]])
    (fun y => y.1 ≤ ts.length ∧ Sl 3 1 y.2.1 y.1 (ints ((List.range y.1).map fun j => a + 1 + (j : Nat))) y.2.2.1 ∧ Sl 139 258 y.2.2.2.1 (n + y.1) (wcells (ws ++ pwt a wr (ts.take y.1))) y.2.2.2.2)
    (fun y => ts.length - y.1) (0, nils, [], wv, Hw) ⟨Nat.zero_le _, Sl.nil 3 1, by simpa [pwt] using hw⟩ ?_ ?_ ?_
  · intro tt vv hh
    exact hh
  · simp [Hdv.at, htext]
  rintro ⟨k, sv, Hs, wv1, Hw1⟩ ⟨hk, hsv, hwv⟩
  simp only at hk hsv hwv
  by_cases hkn : k < ts.length
  · have hki : 1 + (k : Int) < 1 + ts.length := by omega
    (try refine wk ?_); (repeat (intro b; (try refine wk ?_)))
    refine J.front 6 rfl rfl ?_
    refine J.front 6 rfl rfl ?_
    refine J.front 6 rfl rfl ?_
    refine J.front 6 rfl rfl ?_
    refine J.front 6 rfl rfl ?_
    refine J.front 6 rfl rfl ?_
    refine J.nm ?_
    (refine J.op rfl ?_; refine J.isCallV ?_; refine J.callV (H1 := [_, _, _, _, _, _]) (PutAt bl ba bs lb d N gen x fv a (1 + k) text t db S wv1 (wr + k) (n + k) (ws ++ pwt a wr (ts.take k)) Hw1 (by omega) (by omega) (by omega) (by omega) hwv (by omega) (by omega)) rfl rfl rfl rfl rfl rfl ?_)
    have hex : text.extract ((1 + (k : Int)) * 256).toNat ((1 + (k : Int) + 1) * 256).toNat = ts[k] := by
      have e1 : ((1 + (k : Int)) * 256).toNat = (k + 1) * 256 := by omega
      have e2 : ((1 + (k : Int) + 1) * 256).toNat = (k + 1 + 1) * 256 := by omega
      rw [e1, e2, htext]; exact chunk_block _ es ts hes hts k hkn
    rw [hex]
    rintro _ _ ⟨rfl, wv2, Hw2, hw2, rfl⟩; refine J.put rfl ?_; refine J.nm ?_
    (try refine wk ?_); (repeat (intro b; (try refine wk ?_)))
    refine J.op rfl ?_; refine J.isBuildSlice ?_; refine J.buildSl [i64 (a + (1 + k))] (cs := [i64 (a + (1 + k))]) rfl rfl rfl rfl rfl (fun v hv => by rw [List.mem_singleton.1 hv]; rfl) rfl rfl rfl ?_
    intro bn
    refine J.front 7 rfl rfl ?_
    refine J.nm ?_
    refine J.op rfl ?_; refine J.isBuiltin ?_; refine J.append (news := [i64 (a + (1 + k))]) 0 hsv rfl rfl rfl rfl rfl (fun u hu => by rw [List.mem_singleton.1 hu]; rfl) (by simp) (by simp) ⟨by omega, by have : maxLen = 9223372036854775807 := rfl; omega⟩ rfl ?_
    intro sv2 Hs2 hs2
    (try refine wk ?_); (repeat (intro b; (try refine wk ?_)))
    refine J.slot 17 (i64 (1 + (k + 1 : Nat))) rfl (congrArg i64 (by omega)) ?_
    refine J.drop 1 ?_
    refine J.pick [3, 4, 8, 9, 10, 14, 15, 16, 17] rfl ?_
    refine J.round (k + 1, sv2, Hs2, wv2, Hw2) ⟨hkn, ?_, ?_⟩ (by show ts.length - (k + 1) < ts.length - k; omega) (fun _ _ h => h) ?_
    · show Sl 3 1 sv2 (k + 1) _ Hs2
      rw [List.range_succ, List.map_append]
      have e : ints (List.map (fun j : Nat => a + 1 + (j : Int)) [k]) = [i64 (a + (1 + k))] := by simp; omega
      simp only [ints] at e hs2 ⊢
      rw [List.map_append, e]
      exact hs2
    · show Sl 139 258 wv2 (n + (k + 1)) _ Hw2
      rw [pwt_take a wr ts k hkn, ← List.append_assoc]
      have e : a + 1 + (k : Int) = a + (1 + k) := by omega
      rw [e]
      exact hw2
    · show _ = _
      have e : wr + ((k + 1 : Nat) : Int) = wr + k + 1 := by omega
      simp only [e]
      rfl
  · obtain rfl : ts.length = k := by omega
    rw [List.take_length] at hwv
    have hpw : Wok S (ws ++ pwt a wr ts) := by
      intro q hq
      rcases List.mem_append.1 hq with h | h
      · exact hwo q h
      · obtain ⟨⟨u, j⟩, h2, rfl⟩ := List.mem_map.1 h
        have h3 := List.mem_zipIdx h2
        simp only [Nat.zero_add, Nat.sub_zero] at h3
        obtain ⟨h4, h5, h6⟩ := h3
        have hu : u ∈ ts := by rw [h6]; exact List.getElem_mem _
        refine ⟨?_, ?_, hts u hu⟩
        · show 0 ≤ a + 1 + (j : Int); omega
        · show a + 1 + (j : Int) < S; omega
    (try refine wk ?_); (repeat (intro b; (try refine wk ?_)))
    refine J.any Tryz.mixed [[(bl, .cells [ptr lb 0] 88 (0, 0))], [(lb, .cells (lcell d N gen x fv) 190 (0, 0))]] ?_
    refine J.tk 0 ?_
    refine J.tk 1 ?_
    refine J.tk 2 ?_
    refine J.tk 3 ?_
    refine J.tk 4 ?_
    refine J.tk 5 ?_
    refine J.tk 6 ?_
    refine J.tk 7 ?_
    refine J.tk 8 ?_
    refine J.on 9 ?_ -- call
    refine J.front 6 rfl rfl ?_
    refine J.front 10 rfl rfl ?_
    refine J.front 7 rfl rfl ?_
    refine J.nm ?_
    refine J.isCallF ?_; refine J.call (H1 := [_, _, _]) (Flush d t db S wv1 (wr + ts.length) (n + ts.length) D (ws ++ pwt a wr ts) Hw1 hD (by omega) hpw hwv (by omega)) rfl rfl rfl rfl ?_
    rintro _ _ ⟨rfl, rfl⟩; refine J.pn ?_
    refine J.hd ?_
    refine J.tk 10 ?_
    refine J.tk 11 ?_
    (first | refine J.tkW 12 ?_ | refine J.tkE 12 ?_ | refine J.tkN 12 ?_ | refine J.tkX 12 ?_ | refine J.tkU 12 ?_)
    (first | refine J.onW 13 ?_ | refine J.onE 13 ?_) -- call
    refine J.front 0 rfl rfl ?_
    refine J.front 6 rfl rfl ?_
    refine J.front 6 rfl rfl ?_
    refine J.front 6 rfl rfl ?_
    refine J.front 6 rfl rfl ?_
    refine J.nm ?_
    refine J.nilAt 5 rfl ?_
    refine J.nm ?_
    refine J.isCallV ?_; refine J.callV (H1 := [_, _, _, _, _, _]) (PutAt bl ba bs lb d N gen x fv a 0 text t db S nils (wr + ts.length) 0 [] [] (by omega) (by omega) (by omega) (by omega) (Sl.nil 139 258) (by omega) (by omega)) rfl rfl rfl rfl rfl rfl ?_
    have hex : text.extract ((0 : Int) * 256).toNat (((0 : Int) + 1) * 256).toNat = headBlock (hd.at gen x') es (joinT ts) := by
      rw [htext]; exact chunk_head _ es ts hes
    rw [hex]
    rintro _ _ ⟨rfl, wv2, Hw2, hw2, rfl⟩; refine J.put rfl ?_; refine J.nm ?_
    refine J.hd ?_
    (first | refine J.tkW 14 ?_ | refine J.tkE 14 ?_ | refine J.tkN 14 ?_ | refine J.tkX 14 ?_ | refine J.tkU 14 ?_)
    refine J.tk 15 ?_
    refine J.al ?_
    have hsq : 1 ≤ x'.seq := hok.seq.1
    (try refine wk ?_); (repeat (intro b; (try refine wk ?_)))
    refine J.any Tryz.mixed [[(bh, .cells ((hd.at gen x').cells (.slice lp nE lc)) 95 (0, 0))]] ?_
    refine J.tk 0 ?_
    refine J.tk 1 ?_
    refine J.tk 2 ?_
    refine J.tk 3 ?_
    refine J.tk 4 ?_
    refine J.tk 5 ?_
    refine J.tk 6 ?_
    refine J.on 7 ?_ -- store
    (refine wo ?_; (try intro b))
    refine J.hd ?_
    refine J.tk 8 ?_
    refine J.on 9 ?_ -- store
    (refine wo ?_; (try intro b))
    refine J.hd ?_
    refine J.tk 10 ?_
    refine J.on 11 ?_ -- store
    (refine wo ?_; (try intro b))
    refine J.hd ?_
    refine J.al ?_
    (try refine wk ?_); (repeat (intro b; (try refine wk ?_)))
    refine J.any Tryz.mixed [[(bl, .cells [ptr lb 0] 88 (0, 0))], [(bx, .cells (x'.behind hd (1 + ts.length)).cells 57 (0, 0))]] ?_
    refine J.tk 0 ?_
    refine J.tk 1 ?_
    refine J.tk 2 ?_
    refine J.tk 3 ?_
    refine J.tk 4 ?_
    refine J.tk 5 ?_
    refine J.on 6 ?_ -- store
    (refine wo ?_; (try intro b))
    refine J.hd ?_
    refine J.tk 7 ?_
    refine J.tk 8 ?_
    refine J.on 9 ?_ -- store
    (refine wo ?_; (try intro b))
    refine J.hd ?_
    refine J.al ?_
    (try refine wk ?_); (repeat (intro b; (try refine wk ?_)))
    refine J.front 7 rfl rfl ?_
    refine J.front 12 rfl rfl ?_
    refine J.front 12 rfl rfl ?_
    refine J.front 8 rfl rfl ?_
    refine J.front 9 rfl rfl ?_
    refine J.front 9 rfl rfl ?_
    refine J.front 11 rfl rfl ?_
    refine J.front 10 rfl rfl ?_
    refine J.nm ?_
    refine J.first 8 rfl ?_
    refine J.done_ret (res2 rfl rfl rfl) ?_
    exact ⟨sv, _, Hs, fv', wv2, Hw2, rfl, hsv, hf', by rw [Int.add_zero] at hw2; exact hw2, rfl⟩
end Go.Proofs.YF
namespace Go.Proofs.YF
open Go YE
attribute [local irreducible] CW LW OW XW AW PW HW RW AK HK AP HP DX CI LI OI BW RE MW J Gives
set_option maxHeartbeats 1000000
set_option maxRecDepth 20000

def wiped (wr : Int) (k : Nat) : List (Int × Int × ByteArray) := [(wr, 18, zeros 256), (wr + 1, 19, zeros 256)].take k
theorem Wipe (d : Nat) (t : Rest) (db S : Nat) (wv : Value) (wr : Int) (n : Nat) (ws : List (Int × Int × ByteArray)) (Hw : Heap) (hS : 48 ≤ S)
    (hw : Sl 139 258 wv n (wcells ws) Hw) (hn : n ≤ 100000) (hwr : 0 ≤ wr ∧ wr ≤ 100000000) :
    Sp Tryz.prog 75 #[ptr d 0, i64 2, i64 2] [[(d, .cells (dcell t db S wv wr) 114 (0, 0))], Hw]
      (fun v H => v = .bool true ∧ ∃ wv' Hw', Sl 139 258 wv' (n + 2) (wcells (ws ++ wiped wr 2)) Hw' ∧ H = [[(d, .cells (dcell t db S wv' (wr + 2)) 114 (0, 0))], Hw']) := by
  refine Sp.intro Tryz.func75 rfl rfl rfl fun w K => ?_
  have hz := zeros_size 256
  (try refine wk ?_); (repeat (intro b; (try refine wk ?_)))
  (refine J.op rfl ?_; refine J.isCallF ?_; refine J.call (Copies 2 (by omega) (by omega)) rfl rfl rfl rfl ?_; rintro _ _ ⟨rfl, rfl⟩; refine J.pn ?_)
  (try refine wk ?_); (repeat (intro b; (try refine wk ?_)))
  refine J.pick [0, 1, 7, 11, 12] rfl ?_
  refine J.loop (α := Nat × Value × Heap) (fun y => [(0, ptr d 0), (1, i64 2), (7, .bool true), (11, .agg #[i64 18, i64 19]), (12, i64 y.1)]) (fun y => [[(d, .cells (dcell t db S y.2.1 (wr + y.1)) 114 (0, 0))], y.2.2])
    (fun y => y.1 ≤ 2 ∧ Sl 139 258 y.2.1 (n + y.1) (wcells (ws ++ wiped wr y.1)) y.2.2) (fun y => 2 - y.1) (0, wv, Hw) ⟨by show 0 ≤ 2; omega, by simpa [wiped] using hw⟩ (fun _ _ h => h) (by simp) ?_
  rintro ⟨k, wv1, Hw1⟩ ⟨hk, hw1⟩
  simp only at hk hw1
  by_cases hkn : k < 2
  · have hki : (k : Int) < 2 := by omega
    obtain ⟨s, hs1, hs2, hs3⟩ : ∃ s : Int, ([i64 18, i64 19] : List Value)[(k : Int).toNat]? = some (i64 s) ∧ (s = 18 ∨ s = 19) ∧ wiped wr (k + 1) = wiped wr k ++ [(wr + k, s, zeros 256)] := by
      match k, hkn with
      | 0, _ => exact ⟨18, rfl, by omega, by simp [wiped]⟩
      | 1, _ => exact ⟨19, rfl, by omega, by simp [wiped]⟩
    have hr : (0 : Int) ≤ k ∧ (k : Int) < (2 : Nat) := by omega
    have hs0 : s > 0 := by omega
    (try refine wk ?_); (repeat (intro b; (try refine wk ?_)))
    refine J.op rfl ?_; refine J.isIndex ?_; refine J.give (Gives.indexA1 rfl rfl rfl hr hs1) rfl rfl ?_
    (try refine wk ?_); (repeat (intro b; (try refine wk ?_)))
    (refine J.want rfl rfl rfl ?_; refine J.isCallF ?_; refine J.call (H1 := []) (Repeat256 _ zeros_one) rfl rfl rfl rfl ?_; rintro _ _ ⟨rfl, rfl⟩; refine J.put rfl ?_; refine J.nm ?_)
    (try refine wk ?_); (repeat (intro b; (try refine wk ?_)))
    (refine J.want rfl rfl rfl ?_; refine J.isCallF ?_; refine J.call (H1 := [_, _]) (Write d t db S wv1 (wr + k) s (zeros 256) (n + k) (ws ++ wiped wr k) Hw1 (by omega) hz hw1 (by omega) (by omega)) rfl rfl rfl rfl ?_)
    rintro _ _ ⟨rfl, wv2, Hw2, hw2, rfl⟩; refine J.put rfl ?_; refine J.nm ?_
    (try refine wk ?_); (repeat (intro b; (try refine wk ?_)))
    refine J.pick [0, 1, 7, 11, 12] rfl ?_
    refine J.round (k + 1, wv2, Hw2) ⟨hkn, ?_⟩ (by show 2 - (k + 1) < 2 - k; omega) (fun _ _ h => h) ?_
    · show Sl 139 258 wv2 (n + (k + 1)) _ Hw2
      rw [hs3, ← List.append_assoc]; exact hw2
    · show _ = _
      have e : wr + ((k + 1 : Nat) : Int) = wr + k + 1 := by omega
      simp only [e]
  · obtain rfl : 2 = k := by omega
    (try refine wk ?_); (repeat (intro b; (try refine wk ?_)))
    refine J.done_ret (res1 rfl rfl) ?_
    exact ⟨rfl, wv1, Hw1, hw1, rfl⟩
end Go.Proofs.YF
namespace Go.Proofs.YF
open Go YE
attribute [local irreducible] CW LW OW XW AW PW HW RW AK HK AP HP DX CI LI OI BW RE MW J Gives
set_option maxHeartbeats 1000000
set_option maxRecDepth 20000

theorem flat_take_of {ws : List (Int × Int × ByteArray)} {k : Nat} {x : Int × Int × ByteArray} {rest : List Value} (h : ∀ x, x ∈ ws → (wcell x).length = 258) (hk : ws[k]? = some x) : ((wcells ws ++ rest).drop (k * 258)).take 258 = wcell x := flat_take (f := wcell) (m := 258) ws k x rest h hk
theorem Read (d db S : Nat) (wv : Value) (wr : Int) (i : Nat) (n : Nat) (ws : List (Int × Int × ByteArray)) (Hw : Heap) (D : List ByteArray) (hD : Secs S D) (hS : S ≤ 20000) (hi : i < S) (hwo : Wok S ws) (hw : Sl 139 258 wv n (wcells ws) Hw) (hn : n ≤ 100000)
    (hno : ∀ x, x ∈ ws → x.2.1 ≠ i) (s : ByteArray) (hs : D[i]? = some s) :
    Sp Tryz.prog 66 #[ptr d 0, i64 i] [[(d, .cells (dcell nilRest db S wv wr) 114 (0, 0))], [(db, .cells (dcells D) 137 (0, 0))], Hw]
      (fun v H => v = .tuple #[.string s, .bool true] ∧ H = [[(d, .cells (dcell nilRest db S wv wr) 114 (0, 0))], [(db, .cells (dcells D) 137 (0, 0))], Hw]) := by
  refine Sp.intro Tryz.func66 rfl rfl rfl fun w K => ?_
  obtain ⟨wp, wc, rfl⟩ := Sl.slice hw
  have hsz : s.size = 256 := hD.2 s (List.mem_of_getElem? hs)
  have hlen : ws.length = n := by
    have h1 := hw.len
    have h2 := flat_len (f := wcell) (m := 258) ws (fun x hx => wcell_len (hwo x hx).2.2)
    unfold wcells at h1; omega
  have hidx : ¬ ((i : Int) < 0 ∨ (S : Int) ≤ i) := by omega
  have hr1 : (0 : Int) ≤ i ∧ (i : Int) < S := by omega
  have hd1 : ((dcells D).drop (0 + (i : Int).toNat * 256)).take 256 = bv s := by
    have := flat_take (f := bv) (m := 256) D i s [] (fun t ht => by rw [bv_len, hD.2 t ht]) hs
    simpa [dcells] using this
  have hd2 : Nat.ble (0 + (i : Int).toNat * 256 + 256) (dcells D).length = true := by
    have h2 := flat_len (f := bv) (m := 256) D (fun t ht => by rw [bv_len, hD.2 t ht])
    have h3 := hD.1
    unfold dcells
    rw [h2, h3]
    simp only [Nat.ble_eq]
    have : (i + 1) * 256 ≤ S * 256 := Nat.mul_le_mul_right _ (by omega)
    simp; omega
  (try refine wk ?_); (repeat (intro b; (try refine wk ?_)))
  refine J.want rfl rfl rfl ?_
  (refine J.isCallF ?_; refine J.call (H1 := [_]) (NoneAt d nilRest db S _ wr i) rfl rfl rfl rfl ?_)
  rintro _ _ ⟨rfl, rfl⟩; refine J.put rfl ?_; refine J.nm ?_
  (try refine wk ?_); (repeat (intro b; (try refine wk ?_)))
  refine J.any Tryz.mixed [[(d, .cells (dcell nilRest db S (.slice wp n wc) wr) 114 (0, 0))], [(db, .cells (dcells D) 137 (0, 0))]] ?_
  refine J.tk 0 ?_
  refine J.tk 1 ?_
  refine J.tk 2 ?_
  (first | refine J.tk 3 ?_ | (refine J.tkO 3 ?_; first | refine J.giveT (Gives.loadA 1 rfl rfl rfl hd2 hd1) rfl rfl ?_))
  refine J.tk 4 ?_
  (first | refine J.tk 5 ?_ | (refine J.tkO 5 ?_; first | refine J.giveT (Gives.loadA 1 rfl rfl rfl hd2 hd1) rfl rfl ?_))
  (first | refine J.tk 6 ?_ | (refine J.tkO 6 ?_; first | refine J.giveT (Gives.loadA 1 rfl rfl rfl hd2 hd1) rfl rfl ?_))
  refine J.on 7 ?_ -- alloc
  (refine wo ?_; (try intro b))
  obtain ⟨b7, rfl⟩ : ∃ q, q = b := ⟨b, rfl⟩
  refine J.hd ?_
  refine J.tk 8 ?_
  refine J.on 9 ?_ -- store
  refine J.isStore ?_; refine J.storeA (m := 256) 0 rfl rfl rfl (by rw [bv_len]; exact hsz) (bv_one s) rfl (by rw [bv_len, hsz]; rfl) (by simp [noFz]) rfl (H' := [[(b7, .cells (bv s) 137 (0, 0))], [(d, .cells (dcell nilRest db S (.slice wp n wc) wr) 114 (0, 0))], [(db, .cells (dcells D) 137 (0, 0))], Hw]) (by rw [splice_all (by rw [bv_len, hsz]; rfl)]; rfl) ?_
  refine J.hd ?_
  refine J.al ?_
  (try refine wk ?_); (repeat (intro b; (try refine wk ?_)))
  refine J.pick [1, 6, 7, 31, 32] rfl ?_
  refine J.loop (α := Nat) (fun k => [(1, i64 i), (6, i64 (-1)), (7, ptr b7 0), (31, .agg #[nils, nils, .slice wp n wc, nils, nils, nils, nils, nils, nils, nils, nils, nils, nils, nils, nils, nils, nils]), (32, i64 k)])
    (fun _ => [[(b7, .cells (bv s) 137 (0, 0))], [(d, .cells (dcell nilRest db S (.slice wp n wc) wr) 114 (0, 0))], [(db, .cells (dcells D) 137 (0, 0))], Hw]) (fun k => k ≤ 17) (fun k => 17 - k) 0 (Nat.zero_le _) (fun _ _ h => h) rfl (fun k hk => ?_)
  by_cases hkn : k < 17
  · have hki : (k : Int) < 17 := by omega
    have hkr : (0 : Int) ≤ k ∧ (k : Int) < (17 : Nat) := by omega
    by_cases hk2 : k = 2
    · subst hk2
      (try refine wk ?_); (repeat (intro b; (try refine wk ?_)))
      refine J.pick [1, 6, 7, 31, 32, 35, 36, 37] rfl ?_
      refine J.loop (α := Nat) (fun j => [(1, i64 i), (6, i64 (-1)), (7, ptr b7 0), (31, .agg #[nils, nils, .slice wp n wc, nils, nils, nils, nils, nils, nils, nils, nils, nils, nils, nils, nils, nils, nils]), (32, i64 (2 : Nat)), (35, .slice wp n wc), (36, i64 n), (37, i64 j)])
        (fun _ => [[(b7, .cells (bv s) 137 (0, 0))], [(d, .cells (dcell nilRest db S (.slice wp n wc) wr) 114 (0, 0))], [(db, .cells (dcells D) 137 (0, 0))], Hw]) (fun j => j ≤ n) (fun j => n - j) 0 (Nat.zero_le _) (fun _ _ h => h) rfl (fun j hj => ?_)
      by_cases hjn : j < n
      · have hji : (j : Int) < n := by omega
        have hjr : (0 : Int) ≤ j ∧ (j : Int) < n := by omega
        have hjx := hno _ (List.getElem_mem (by omega : j < ws.length))
        have hjo := hwo _ (List.getElem_mem (by omega : j < ws.length))
        have hne : ¬ (ws[j]).2.1 = (i : Int) := hjx
        have hwl := wcell_len hjo.2.2
        rcases hw with ⟨h1, h2, _, _⟩ | ⟨wb, wcap, wrest, h1, rfl, h3, h4, h5, _⟩
        · omega
        · obtain ⟨rfl, rfl⟩ : wp = some ⟨wb, 0, none⟩ ∧ wc = wcap := by cases h1; exact ⟨rfl, rfl⟩
          have hj1 : ((wcells ws ++ wrest).drop (0 + (j : Int).toNat * 258)).take 258 = wcell ws[j] := by
            rw [show 0 + (j : Int).toNat * 258 = j * 258 by simp]
            exact flat_take_of (fun x hx => wcell_len (hwo x hx).2.2) (List.getElem?_eq_getElem (by omega))
          have hj2 : Nat.ble (0 + (j : Int).toNat * 258 + 258) (wcells ws ++ wrest).length = true := by
            rw [h4]; simp only [Nat.ble_eq]
            have : (j + 1) * 258 ≤ wc * 258 := Nat.mul_le_mul_right _ (by omega)
            simp; omega
          generalize ws[j] = x at *
          (try refine wk ?_); (repeat (intro b; (try refine wk ?_)))
          refine J.op rfl ?_; refine J.isLoad ?_; refine J.give (Gives.loadA 3 rfl rfl rfl hj2 hj1) rfl rfl ?_
          refine J.op rfl ?_; refine J.isAlloc ?_; refine J.alloc rfl rfl rfl ?_; intro b11
          refine J.op rfl ?_; refine J.isStore ?_; refine J.storeA (m := 258) 0 rfl rfl rfl hwl (by
            intro v hv
            rcases List.mem_cons.1 hv with rfl | hv
            · rfl
            rcases List.mem_cons.1 hv with rfl | hv
            · rfl
            exact bv_one _ v hv) rfl (by rw [hwl]; rfl) (by simp [noFz]) rfl (H' := [[(b11, .cells (wcell x) 139 (0, 0))], [(b7, .cells (bv s) 137 (0, 0))], [(d, .cells (dcell nilRest db S (slc wb 0 n wc) wr) 114 (0, 0))], [(db, .cells (dcells D) 137 (0, 0))], _]) (by rw [splice_all (by rw [hwl]; rfl)]; rfl) ?_
          refine J.norm (H' := [[(b11, .cells (i64 x.1 :: i64 x.2.1 :: bv x.2.2) 139 (0, 0))], [(b7, .cells (bv s) 137 (0, 0))], [(d, .cells (dcell nilRest db S (slc wb 0 n wc) wr) 114 (0, 0))], [(db, .cells (dcells D) 137 (0, 0))], _]) rfl ?_
          (try refine wk ?_); (repeat (intro b; (try refine wk ?_)))
          refine J.drop 0 ?_
          refine J.pick [1, 6, 7, 31, 32, 35, 36, 37] rfl ?_
          exact J.round (j + 1) hjn (by omega) (fun _ _ h => h) rfl
      · obtain rfl : n = j := by omega
        (try refine wk ?_); (repeat (intro b; (try refine wk ?_)))
        refine J.slot 32 (i64 (3 : Nat)) rfl rfl ?_
        refine J.pick [1, 6, 7, 31, 32] rfl ?_
        exact J.round 3 (by show 3 ≤ 17; omega) (by show 17 - 3 < 17 - 2; omega) (fun _ _ h => h) rfl
    · have hnil : [nils, nils, .slice wp n wc, nils, nils, nils, nils, nils, nils, nils, nils, nils, nils, nils, nils, nils, nils][(k : Int).toNat]? = some nils := by
        have : k ∈ [0, 1, 3, 4, 5, 6, 7, 8, 9, 10, 11, 12, 13, 14, 15, 16] := by simp; omega
        simp only [List.mem_cons, List.not_mem_nil, or_false] at this
        rcases this with rfl | rfl | rfl | rfl | rfl | rfl | rfl | rfl | rfl | rfl | rfl | rfl | rfl | rfl | rfl | rfl <;> rfl
      (try refine wk ?_); (repeat (intro b; (try refine wk ?_)))
      refine J.op rfl ?_; refine J.isIndex ?_; refine J.give (Gives.indexA1 (v := nils) rfl rfl rfl hkr hnil) rfl rfl ?_
      (try refine wk ?_); (repeat (intro b; (try refine wk ?_)))
      refine J.pick [1, 6, 7, 31, 32, 35, 36, 37] rfl ?_
      refine J.loop (α := Unit) (fun _ => [(1, i64 i), (6, i64 (-1)), (7, ptr b7 0), (31, .agg #[nils, nils, .slice wp n wc, nils, nils, nils, nils, nils, nils, nils, nils, nils, nils, nils, nils, nils, nils]), (32, i64 k), (35, nils), (36, i64 (0 : Nat)), (37, i64 0)])
        (fun _ => [[(b7, .cells (bv s) 137 (0, 0))], [(d, .cells (dcell nilRest db S (.slice wp n wc) wr) 114 (0, 0))], [(db, .cells (dcells D) 137 (0, 0))], Hw]) (fun _ => True) (fun _ => 0) () trivial (fun _ _ h => h) rfl (fun _ _ => ?_)
      (try refine wk ?_); (repeat (intro b; (try refine wk ?_)))
      refine J.pick [1, 6, 7, 31, 32] rfl ?_
      exact J.round (k + 1) hkn (by omega) (fun _ _ h => h) rfl
  · obtain rfl : 17 = k := by omega
    (try refine wk ?_); (repeat (intro b; (try refine wk ?_)))
    refine J.op rfl ?_; refine J.isConv ?_; refine J.give (Gives.bytesStr (s := s) 0 rfl rfl rfl hsz (by rw [List.drop_zero, ← hsz, ← bv_len]; exact List.take_length)) rfl rfl ?_
    (try refine wk ?_); (repeat (intro b; (try refine wk ?_)))
    refine J.drop 0 ?_
    refine J.done_ret (res2 rfl rfl rfl) ?_
    exact ⟨rfl, rfl⟩
end Go.Proofs.YF
namespace Go.Proofs.YF
open Go YE
attribute [local irreducible] CW LW OW XW AW PW HW RW AK HK AP HP DX CI LI OI BW RE MW J Gives
set_option maxHeartbeats 1000000
set_option maxRecDepth 20000

theorem Number0 (s : ByteArray) (b m cap : Nat) (rest : List Value) (z : Nat × Nat) (hs : s = zeros m) (hm : m ≤ 100) : Sp Tryz.prog 231 #[slc b 0 s.size cap] [[(b, .cells (bv s ++ rest) 5 z)]] (fun v H => v = i64 0 ∧ H = [[(b, .cells (bv s ++ rest) 5 z)]]) := by
  subst hs
  rw [zeros_size m]
  refine Sp.intro Tryz.func231 rfl rfl rfl fun w K => ?_
  (try refine wk ?_); (repeat (intro b; (try refine wk ?_)))
  refine J.pick [0, 3, 4] rfl ?_
  refine J.loop (α := Nat) (fun k => [(0, slc b 0 m cap), (3, i64 0), (4, i64 ((k : Int) - 1))]) (fun _ => [[(b, .cells (bv (zeros m) ++ rest) 5 z)]]) (fun k => k ≤ m) (fun k => k) m (Nat.le_refl _) (fun _ _ h => h) rfl (fun k hk => ?_)
  cases k with
  | zero =>
    have h0 : ¬ ((0 : Nat) : Int) - 1 ≥ 0 := by omega
    (try refine wk ?_); (repeat (intro b; (try refine wk ?_)))
    refine J.done_ret (res1 rfl rfl) ?_
    exact ⟨rfl, rfl⟩
  | succ k =>
    have h0 : ((k + 1 : Nat) : Int) - 1 ≥ 0 := by omega
    have hr : (0 : Int) ≤ ((k + 1 : Nat) : Int) - 1 ∧ ((k + 1 : Nat) : Int) - 1 < m := by omega
    have hl : (bv (zeros m) ++ rest)[0 + (((k + 1 : Nat) : Int) - 1).toNat * 1]? = some (.int .u8 0) := by
      have e : 0 + (((k + 1 : Nat) : Int) - 1).toNat * 1 = k := by omega
      rw [e, List.getElem?_append_left (by rw [bv_len, zeros_size]; omega), zeros_bv, List.getElem?_replicate, if_pos (by omega)]
    (try refine wk ?_); (repeat (intro b; (try refine wk ?_)))
    refine J.op rfl ?_; refine J.isBin ?_; refine J.give (Gives.shl rfl rfl rfl (by omega)) rfl rfl ?_
    (try refine wk ?_); (repeat (intro b; (try refine wk ?_)))
    refine J.op rfl ?_; refine J.isLoad ?_; refine J.give (Gives.load1 0 rfl rfl rfl hl) rfl rfl ?_
    (try refine wk ?_); (repeat (intro b; (try refine wk ?_)))
    refine J.op rfl ?_; refine J.isBin ?_; refine J.give (Gives.or rfl rfl rfl) rfl rfl ?_
    (try refine wk ?_); (repeat (intro b; (try refine wk ?_)))
    refine J.slot 3 (i64 0) rfl rfl ?_
    refine J.slot 4 (i64 ((k : Int) - 1)) rfl (congrArg i64 (by omega)) ?_
    refine J.pick [0, 3, 4] rfl ?_
    exact J.round k (by omega) (by omega) (fun _ _ h => h) rfl
theorem zeros_part (m a b : Nat) (h : b ≤ m) : (zeros m).extract a b = zeros (b - a) := by
  apply bv_inj
  rw [bv_extract, zeros_bv, zeros_bv, List.drop_replicate, List.take_replicate]
  congr 1; omega
theorem BinGet0 (m : Nat) (a n : Int) (hn : 0 ≤ n ∧ n ≤ 7) (ha : 0 ≤ a ∧ a + n ≤ m) (hm : m ≤ 1000) : Sp Tryz.prog 193 #[.string (zeros m), i64 a, i64 n] [] (Is (.tuple #[i64 0, .bool true])) := by
  refine Sp.intro Tryz.func193 rfl rfl rfl fun w K => ?_
  have hz := zeros_size m
  have h1 : ¬ n < 0 := by omega
  have h2 : ¬ n > 7 := by omega
  have h3 : ¬ a < 0 := by omega
  have h4 : ¬ a > ((zeros m).size : Int) - n := by omega
  have hb : (0 : Int) ≤ a ∧ a ≤ a + n ∧ a + n ≤ (zeros m).size := by omega
  (try refine wk ?_); (repeat (intro b; (try refine wk ?_)))
  have hx : (zeros m).extract a.toNat (a + n).toNat = zeros n.toNat := by rw [zeros_part _ _ _ (by omega)]; congr 1; omega
  refine J.slot 31 (.string (zeros n.toNat)) rfl (by rw [hx]) ?_
  refine J.op rfl ?_; refine J.isConv ?_; refine J.strBytes rfl rfl rfl rfl ?_
  intro b cap rest
  have hzn := zeros_size n.toNat
  (refine J.op rfl ?_; refine J.isCallF ?_; refine J.call (H1 := [_]) (Number0 (zeros n.toNat) b n.toNat cap rest _ rfl (by omega)) rfl rfl rfl rfl ?_)
  rintro _ _ ⟨rfl, rfl⟩; refine J.pn ?_
  (try refine wk ?_); (repeat (intro b; (try refine wk ?_)))
  refine J.clear ?_; refine J.done_ret (res2 rfl rfl rfl) ?_
  exact ⟨rfl, rfl⟩
theorem ReadGet0 (b : Nat) (a n : Int) (hn : 0 ≤ n ∧ n ≤ 7) (ha : 0 ≤ a ∧ a + n ≤ 256) : Sp Tryz.prog 182 #[ptr b 0, i64 n] [[(b, .cells [.string (zeros 256), i64 a] 257 (0, 0))]] (fun v H => v = i64 0 ∧ H = [[(b, .cells [.string (zeros 256), i64 (a + n)] 257 (0, 0))]]) := by
  refine Sp.intro Tryz.func182 rfl rfl rfl fun w K => ?_
  (try refine wk ?_); (repeat (intro b; (try refine wk ?_)))
  refine J.any Tryz.mixed [[(b, .cells [.string (zeros 256), i64 a] 257 (0, 0))]] ?_
  refine J.tk 0 ?_
  refine J.tk 1 ?_
  refine J.tk 2 ?_
  refine J.tk 3 ?_
  refine J.tk 4 ?_
  refine J.tk 5 ?_
  refine J.tk 6 ?_
  refine J.tk 7 ?_
  refine J.tk 8 ?_
  refine J.on 9 ?_ -- call
  refine J.isCallF ?_; refine J.call (H1 := []) (BinGet0 256 a n hn ha (by omega)) rfl rfl rfl rfl ?_
  rintro _ _ ⟨rfl, rfl⟩; refine J.pn ?_
  refine J.hd ?_
  refine J.tk 10 ?_
  refine J.tk 11 ?_
  refine J.tk 12 ?_
  refine J.tk 13 ?_
  refine J.tk 14 ?_
  refine J.al ?_
  (try refine wk ?_); (repeat (intro b; (try refine wk ?_)))
  refine J.done_ret (res1 rfl rfl) ?_
  exact ⟨rfl, rfl⟩
/-- A head of nothing. -/
abbrev hd0 : Hdv := ⟨0, 0, 0, 0, 0, 0, 0, 0⟩
theorem HeadCheck0 : Sp Tryz.prog 183 #[hd0.v nils] [] (Is (.bool false)) := by
  refine Sp.intro Tryz.func183 rfl rfl rfl fun w K => ?_
  (try refine wk ?_); (repeat (intro b; (try refine wk ?_)))
  (refine J.op rfl ?_; refine J.isCallF ?_; refine J.call (H1 := []) (HeadIn 0 1 16) rfl rfl rfl rfl ?_; rintro _ _ ⟨rfl, rfl⟩; refine J.put rfl ?_; refine J.nm ?_)
  refine J.slot 8 (.bool false) rfl rfl ?_
  (try refine wk ?_); (repeat (intro b; (try refine wk ?_)))
  refine J.pick [3, 51, 52, 53] rfl ?_
  refine J.loop (α := Unit) (fun _ => _) (fun _ => _) (fun _ => True) (fun _ => 0) () trivial (fun _ _ h => h) rfl (fun _ _ => ?_)
  (try refine wk ?_); (repeat (intro b; (try refine wk ?_)))
  refine J.clear ?_; refine J.done_ret (res1 rfl rfl) ?_; refine ⟨?_, rfl⟩
  rfl
theorem HeadGet0 : Sp Tryz.prog 128 #[.string (zeros 256)] [] (Is (.tuple #[hd0.v nils, i64 0, .bool false])) := by
  refine Sp.intro Tryz.func128 rfl rfl rfl fun w K => ?_
  have hz := zeros_size 256
  have h1 : ¬ ((zeros 256).size : Int) < 256 := by omega
  have hb : (0 : Int) ≤ 256 ∧ (256 : Int) ≤ (zeros 256).size := by omega
  refine J.seq ?_; refine J.region ?_; refine J.op rfl ?_
  (refine wo ?_; (try intro b))
  obtain ⟨b2, rfl⟩ : ∃ q, q = b := ⟨b, rfl⟩
  (try refine wk ?_); (repeat (intro b; (try refine wk ?_)))
  refine J.slot 12 (.string (zeros 256)) rfl (congrArg Value.string (zeros_extract 256 256 (Nat.le_refl _))) ?_
  refine J.op rfl ?_; refine J.isBuild ?_; refine J.give (Gives.build (vs := [(0, .string (zeros 256)), (1, i64 4)]) (cells := #[.string (zeros 256), i64 4]) rfl rfl (by kernel_rfl)) rfl rfl ?_
  (try refine wk ?_); (repeat (intro b; (try refine wk ?_)))
  obtain ⟨b5, rfl⟩ : ∃ q, q = b := ⟨b, rfl⟩
  (refine J.op rfl ?_; refine J.isCallV ?_; refine J.callV (H1 := [_]) (ReadGet0 b5 _ 1 ?_ ?_) rfl rfl rfl rfl rfl rfl ?_; (focus omega); (focus omega); rintro _ _ ⟨rfl, rfl⟩; refine J.put rfl ?_; refine J.nm ?_)
  (try refine wk ?_); (repeat (intro b; (try refine wk ?_)))
  (refine J.op rfl ?_; refine J.isCallV ?_; refine J.callV (H1 := [_]) (ReadGet0 b5 _ 2 ?_ ?_) rfl rfl rfl rfl rfl rfl ?_; (focus omega); (focus omega); rintro _ _ ⟨rfl, rfl⟩; refine J.put rfl ?_; refine J.nm ?_)
  (try refine wk ?_); (repeat (intro b; (try refine wk ?_)))
  (refine J.op rfl ?_; refine J.isCallV ?_; refine J.callV (H1 := [_]) (ReadGet0 b5 _ 3 ?_ ?_) rfl rfl rfl rfl rfl rfl ?_; (focus omega); (focus omega); rintro _ _ ⟨rfl, rfl⟩; refine J.put rfl ?_; refine J.nm ?_)
  (try refine wk ?_); (repeat (intro b; (try refine wk ?_)))
  (refine J.op rfl ?_; refine J.isCallV ?_; refine J.callV (H1 := [_]) (ReadGet0 b5 _ 6 ?_ ?_) rfl rfl rfl rfl rfl rfl ?_; (focus omega); (focus omega); rintro _ _ ⟨rfl, rfl⟩; refine J.put rfl ?_; refine J.nm ?_)
  (try refine wk ?_); (repeat (intro b; (try refine wk ?_)))
  (refine J.op rfl ?_; refine J.isCallV ?_; refine J.callV (H1 := [_]) (ReadGet0 b5 _ 2 ?_ ?_) rfl rfl rfl rfl rfl rfl ?_; (focus omega); (focus omega); rintro _ _ ⟨rfl, rfl⟩; refine J.put rfl ?_; refine J.nm ?_)
  (try refine wk ?_); (repeat (intro b; (try refine wk ?_)))
  (refine J.op rfl ?_; refine J.isCallV ?_; refine J.callV (H1 := [_]) (ReadGet0 b5 _ 6 ?_ ?_) rfl rfl rfl rfl rfl rfl ?_; (focus omega); (focus omega); rintro _ _ ⟨rfl, rfl⟩; refine J.put rfl ?_; refine J.nm ?_)
  (try refine wk ?_); (repeat (intro b; (try refine wk ?_)))
  (refine J.op rfl ?_; refine J.isCallV ?_; refine J.callV (H1 := [_]) (ReadGet0 b5 _ 6 ?_ ?_) rfl rfl rfl rfl rfl rfl ?_; (focus omega); (focus omega); rintro _ _ ⟨rfl, rfl⟩; refine J.put rfl ?_; refine J.nm ?_)
  (try refine wk ?_); (repeat (intro b; (try refine wk ?_)))
  (refine J.op rfl ?_; refine J.isCallV ?_; refine J.callV (H1 := [_]) (ReadGet0 b5 _ 6 ?_ ?_) rfl rfl rfl rfl rfl rfl ?_; (focus omega); (focus omega); rintro _ _ ⟨rfl, rfl⟩; refine J.put rfl ?_; refine J.nm ?_)
  (try refine wk ?_); (repeat (intro b; (try refine wk ?_)))
  (refine J.op rfl ?_; refine J.isCallV ?_; refine J.callV (H1 := [_]) (ReadGet0 b5 _ 1 ?_ ?_) rfl rfl rfl rfl rfl rfl ?_; (focus omega); (focus omega); rintro _ _ ⟨rfl, rfl⟩; refine J.put rfl ?_; refine J.nm ?_)
  (try refine wk ?_); (repeat (intro b; (try refine wk ?_)))
  refine J.slot 43 (i64 0) rfl rfl ?_
  refine J.pick [2, 43, 44] rfl ?_
  refine J.drop 0 ?_
  refine J.loop (α := Unit) (fun _ => [(2, ptr b2 0), (43, i64 0), (44, i64 0)]) (fun _ => [[(b2, .cells (hd0.cells nils) 95 (0, 0))]]) (fun _ => True) (fun _ => 0) () trivial (fun _ _ h => h) (by rfl) (fun _ _ => ?_)
  (try refine wk ?_); (repeat (intro b; (try refine wk ?_)))
  refine J.any Tryz.mixed [[(b2, .cells (hd0.cells nils) 95 (0, 0))]] ?_
  refine J.tk 0 ?_
  refine J.on 1 ?_ -- call
  refine J.isCallF ?_; refine J.call (H1 := []) HeadCheck0 rfl rfl rfl rfl ?_
  rintro _ _ ⟨rfl, rfl⟩; refine J.pn ?_
  refine J.hd ?_
  refine J.tk 2 ?_
  refine J.tk 3 ?_
  (first | refine J.tkW 4 ?_ | (refine J.tkWO 4 ?_; first | refine J.giveT (Gives.move rfl rfl) rfl rfl ?_) | refine J.tkE 4 ?_ | (refine J.tkEO 4 ?_; first | refine J.giveT (Gives.move rfl rfl) rfl rfl ?_) | refine J.tkN 4 ?_ | refine J.tkX 4 ?_ | refine J.tkU 4 ?_)
  (first | refine J.tkN 5 ?_ | refine J.tkX 5 ?_ | refine J.tkU 5 ?_)
  (first | refine J.tkW 6 ?_ | refine J.tkE 6 ?_ | refine J.tkN 6 ?_ | refine J.tkX 6 ?_ | refine J.tkU 6 ?_)
  (first | refine J.tkW 7 ?_ | (refine J.tkWO 7 ?_; first | refine J.giveT (Gives.move rfl rfl) rfl rfl ?_) | refine J.tkE 7 ?_ | (refine J.tkEO 7 ?_; first | refine J.giveT (Gives.move rfl rfl) rfl rfl ?_) | refine J.tkN 7 ?_ | refine J.tkX 7 ?_ | refine J.tkU 7 ?_)
  (first | refine J.tkW 8 ?_ | (refine J.tkWO 8 ?_; first | refine J.giveT (Gives.move rfl rfl) rfl rfl ?_) | refine J.tkE 8 ?_ | (refine J.tkEO 8 ?_; first | refine J.giveT (Gives.move rfl rfl) rfl rfl ?_) | refine J.tkN 8 ?_ | refine J.tkX 8 ?_ | refine J.tkU 8 ?_)
  refine J.tk 9 ?_
  refine J.al ?_
  (try refine wk ?_); (repeat (intro b; (try refine wk ?_)))
  refine J.op rfl ?_; refine J.isBuild ?_; refine J.give (Gives.build (vs := []) (cells := (hd0.cells nils).toArray) rfl rfl (by kernel_rfl)) rfl rfl ?_
  (try refine wk ?_); (repeat (intro b; (try refine wk ?_)))
  exact J.done_first 0 (resA2 0 rfl rfl rfl rfl rfl rfl rfl) rfl ⟨rfl, rfl⟩
end Go.Proofs.YF
