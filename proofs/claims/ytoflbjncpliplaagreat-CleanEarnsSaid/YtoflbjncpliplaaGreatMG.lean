/- Part MG of the walks that a statement of this seat is proved by: laws of memory, then the functions one by one. -/
import Derived.Test.YtoflbjncpliplaaGreatMF
namespace Go.Proofs.YF
open Go YE
attribute [local irreducible] CW LW OW XW AW PW HW RW AK HK AP HP DX CI LI OI BW RE MW J Gives
set_option maxHeartbeats 1000000
set_option maxRecDepth 20000

def emptyB (ll : List (Int × Int)) (a b s : Int) : Bool := decide ((aget ll s).getD 0 = 0) && decide (s ≠ a) && decide (s ≠ b)
def emptyL (ll : List (Int × Int)) (a b : Int) (segs : List Int) : List Int := segs.filter (emptyB ll a b)
theorem emptyL_snoc (ll : List (Int × Int)) (a b s : Int) (l : List Int) : emptyL ll a b (l ++ [s]) = if emptyB ll a b s = true then emptyL ll a b l ++ [s] else emptyL ll a b l := by
  simp only [emptyL, List.filter_append]
  cases h : emptyB ll a b s <;> simp [h]
/-- The lives of a store, told by a list. -/
def LivesAre (bst : Nat) (HQ : Hs) (ll : List (Int × Int)) : Prop :=
  Sp Tryz.prog 96 #[ptr bst 0] HQ (fun v H => ∃ lb le lc, v = .map (some lb) ∧ MapOK ki ki ll le lc ∧ H = [(lb, .map le lc)] :: HQ)
theorem Empty (bst gb cap : Nat) (d : Nat) (N gen : Int) (lg : Value) (num m0 m1 m2 m3 : Int) (base last : Nat) (vs vt vn vu vg : Value) (segs : List Int) (rest : List Value) (HR : Hs) (hn : segs.length ≤ 1000) (ll : List (Int × Int))
    (hL : LivesAre bst ([(bst, .cells (Sto.cells ⟨d, N, gen, slc gb 0 segs.length cap, lg, num, m0, m1, m2, m3, base, last, vs, vt, vn, vu, vg⟩) 92 (0, 0))] :: [(gb, .cells (ints segs ++ rest) 3 (0, 0))] :: HR) ll) (a b : Int) :
    Sp Tryz.prog 88 #[ptr bst 0, i64 a, i64 b] ([(bst, .cells (Sto.cells ⟨d, N, gen, slc gb 0 segs.length cap, lg, num, m0, m1, m2, m3, base, last, vs, vt, vn, vu, vg⟩) 92 (0, 0))] :: [(gb, .cells (ints segs ++ rest) 3 (0, 0))] :: HR)
      (fun v H => ∃ Hr, Sl 3 1 v (emptyL ll a b segs).length (ints (emptyL ll a b segs)) Hr ∧ H = Hr :: [(bst, .cells (Sto.cells ⟨d, N, gen, slc gb 0 segs.length cap, lg, num, m0, m1, m2, m3, base, last, vs, vt, vn, vu, vg⟩) 92 (0, 0))] :: [(gb, .cells (ints segs ++ rest) 3 (0, 0))] :: HR) := by
  refine Sp.intro Tryz.func88 rfl rfl rfl fun w K => ?_
  obtain ⟨P1, hP1⟩ : ∃ P1 : Heap, P1 = [(bst, .cells (Sto.cells ⟨d, N, gen, slc gb 0 segs.length cap, lg, num, m0, m1, m2, m3, base, last, vs, vt, vn, vu, vg⟩) 92 (0, 0))] := ⟨_, rfl⟩
  rw [← hP1] at hL ⊢
  (try refine wk ?_); (repeat (intro b; (try refine wk ?_)))
  refine J.norm (H' := (P1 :: [(gb, .cells (ints segs ++ rest) 3 (0, 0))] :: HR) ++ []) (by simp) ?_
  (refine J.op rfl ?_; refine J.isCallF ?_; refine J.call (H1 := P1 :: [(gb, .cells (ints segs ++ rest) 3 (0, 0))] :: HR) hL rfl rfl rfl rfl ?_)
  rintro v Hq ⟨lb, le, lc, rfl, hm, hq⟩; refine J.put rfl ?_
  refine J.flat (H' := [] :: [(lb, .map le lc)] :: P1 :: [(gb, .cells (ints segs ++ rest) 3 (0, 0))] :: HR) (by rw [hq]; simp) ?_
  rw [hP1]
  (try refine wk ?_); (repeat (intro b; (try refine wk ?_)))
  refine J.pick [0, 1, 2, 7, 8, 16, 17, 18] rfl ?_
  refine J.loop (α := Nat × Value × Heap) (fun z => [(0, ptr bst 0), (1, i64 a), (2, i64 b), (7, .map (some lb)), (8, z.2.1), (16, slc gb 0 segs.length cap), (17, i64 segs.length), (18, i64 z.1)])
    (fun z => z.2.2 :: [(lb, .map le lc)] :: [(bst, .cells (Sto.cells ⟨d, N, gen, slc gb 0 segs.length cap, lg, num, m0, m1, m2, m3, base, last, vs, vt, vn, vu, vg⟩) 92 (0, 0))] :: [(gb, .cells (ints segs ++ rest) 3 (0, 0))] :: HR)
    (fun z => z.1 ≤ segs.length ∧ Sl 3 1 z.2.1 (emptyL ll a b (segs.take z.1)).length (ints (emptyL ll a b (segs.take z.1))) z.2.2) (fun z => segs.length - z.1) (0, nils, []) ⟨Nat.zero_le _, Sl.nil 3 1⟩ (fun _ _ h => h) rfl ?_
  rintro ⟨k, v, Hr⟩ ⟨hk, hs⟩
  simp only at hk hs
  by_cases hkn : k < segs.length
  · have hki : (k : Int) < segs.length := by omega
    have hkr : (0 : Int) ≤ k ∧ (k : Int) < segs.length := by omega
    have hlk : (ints segs ++ rest)[0 + (k : Int).toNat * 1]? = some (i64 segs[k]) := by
      rw [show 0 + (k : Int).toNat * 1 = k by simp, List.getElem?_append_left (by simpa using hkn)]
      simp [hkn]
    have htk : segs.take (k + 1) = segs.take k ++ [segs[k]] := List.take_succ_eq_append_getElem hkn
    have hfl : (emptyL ll a b (segs.take k)).length ≤ 1000 := by
      have := List.length_filter_le (emptyB ll a b) (segs.take k)
      rw [List.length_take] at this
      unfold emptyL; omega
    generalize segs[k] = s at *
    have hv : ((aget ll s).map ki).getD (i64 0) = i64 ((aget ll s).getD 0) := by cases aget ll s <;> rfl
    refine J.seq ?_; refine J.region ?_
    (try refine wk ?_); (repeat (intro b; (try refine wk ?_)))
    refine J.op rfl ?_; refine J.isLoad ?_; refine J.give (Gives.load1 3 rfl rfl rfl hlk) rfl rfl ?_
    (try refine wk ?_); (repeat (intro b; (try refine wk ?_)))
    refine J.op rfl ?_; refine J.isLookup ?_; refine J.give (Gives.look (enc := ki) (encV := ki) 1 keyI hm rfl rfl rfl rfl) rfl rfl ?_
    refine J.slot 24 (i64 ((aget ll s).getD 0)) rfl hv ?_
    by_cases hb : emptyB ll a b s = true
    · have hb1 := hb
      simp only [emptyB, Bool.and_eq_true, decide_eq_true_eq] at hb1
      obtain ⟨⟨c1, c2⟩, c3⟩ := hb1
      (try refine wk ?_); (repeat (intro b; (try refine wk ?_)))
      refine J.op rfl ?_; refine J.isBuildSlice ?_; refine J.buildSl [i64 s] (cs := [i64 s]) rfl rfl rfl rfl rfl (fun v hv => by rw [List.mem_singleton.1 hv]; rfl) rfl rfl rfl ?_
      intro bn
      refine J.front 1 rfl rfl ?_
      refine J.nm ?_
      refine J.op rfl ?_; refine J.isBuiltin ?_; refine J.append (news := [i64 s]) 0 hs rfl rfl rfl rfl rfl (fun u hu => by rw [List.mem_singleton.1 hu]; rfl) (by simp) (by simp) ⟨by omega, by have : maxLen = 9223372036854775807 := rfl; omega⟩ rfl ?_
      intro v2 Hr2 hs2
      (try refine wk ?_); (repeat (intro b; (try refine wk ?_)))
      refine J.drop 1 ?_
      refine J.pick [0, 1, 2, 7, 8, 16, 17, 18] rfl ?_
      refine J.round (k + 1, v2, Hr2) ⟨hkn, ?_⟩ (by show segs.length - (k + 1) < segs.length - k; omega) (fun _ _ h => h) rfl
      show Sl 3 1 v2 (emptyL ll a b (segs.take (k + 1))).length (ints (emptyL ll a b (segs.take (k + 1)))) Hr2
      rw [htk, emptyL_snoc, if_pos hb, List.length_append]
      simpa [ints] using hs2
    · have hb1 := hb
      have hfin : Sl 3 1 v (emptyL ll a b (segs.take (k + 1))).length (ints (emptyL ll a b (segs.take (k + 1)))) Hr := by
        rw [htk, emptyL_snoc, if_neg hb]; exact hs
      by_cases c1 : (aget ll s).getD 0 = 0
      · by_cases c2 : s = a
        · have c2' : ¬ s ≠ a := by omega
          (try refine wk ?_); (repeat (intro b; (try refine wk ?_)))
          refine J.pick [0, 1, 2, 7, 8, 16, 17, 18] rfl ?_
          exact J.round (k + 1, v, Hr) ⟨hkn, hfin⟩ (by show segs.length - (k + 1) < segs.length - k; omega) (fun _ _ h => h) rfl
        · have c2' : s ≠ a := c2
          have c3 : ¬ s ≠ b := fun h => hb (by simp [emptyB, c1, c2, h])
          (try refine wk ?_); (repeat (intro b; (try refine wk ?_)))
          refine J.pick [0, 1, 2, 7, 8, 16, 17, 18] rfl ?_
          exact J.round (k + 1, v, Hr) ⟨hkn, hfin⟩ (by show segs.length - (k + 1) < segs.length - k; omega) (fun _ _ h => h) rfl
      · (try refine wk ?_); (repeat (intro b; (try refine wk ?_)))
        refine J.pick [0, 1, 2, 7, 8, 16, 17, 18] rfl ?_
        exact J.round (k + 1, v, Hr) ⟨hkn, hfin⟩ (by show segs.length - (k + 1) < segs.length - k; omega) (fun _ _ h => h) rfl
  · obtain rfl : segs.length = k := by omega
    rw [List.take_length] at hs
    (try refine wk ?_); (repeat (intro b; (try refine wk ?_)))
    refine J.drop 1 ?_
    refine J.done_ret (res1 rfl rfl) ?_
    exact ⟨Hr, hs, rfl⟩
end Go.Proofs.YF
namespace Go.Proofs.YF
open Go YE
attribute [local irreducible] CW LW OW XW AW PW HW RW AK HK AP HP DX CI LI OI BW RE MW J Gives
set_option maxHeartbeats 1000000
set_option maxRecDepth 20000

def notIn (N : Nat) (m seg : Int) : Prop := 0 ≤ m ∧ m ≤ 100000 ∧ ¬ (48 ≤ m ∧ m < 48 + N * 32 ∧ segOf m = seg)
theorem HoldsNo (bst : Nat) (d N : Nat) (hN : 8 ≤ N ∧ N ≤ 500) (gen : Int) (sv lg : Value) (num m0 m1 m2 m3 : Int) (base last : Nat) (vs vt vn vu vg : Value) (seg : Int) (h0 : notIn N m0 seg) (h1 : notIn N m1 seg) (h2 : notIn N m2 seg) (h3 : notIn N m3 seg) :
    Sp Tryz.prog 145 #[ptr bst 0, i64 seg] [[(bst, .cells (Sto.cells ⟨d, N, gen, sv, lg, num, m0, m1, m2, m3, base, last, vs, vt, vn, vu, vg⟩) 92 (0, 0))]]
      (fun v H => v = .bool false ∧ H = [[(bst, .cells (Sto.cells ⟨d, N, gen, sv, lg, num, m0, m1, m2, m3, base, last, vs, vt, vn, vu, vg⟩) 92 (0, 0))]]) := by
  refine Sp.intro Tryz.func145 rfl rfl rfl fun w K => ?_
  (try refine wk ?_); (repeat (intro b; (try refine wk ?_)))
  refine J.pick [0, 1, 13, 14] rfl ?_
  refine J.loop (α := Nat) (fun k => [(0, ptr bst 0), (1, i64 seg), (13, .agg #[i64 m0, i64 m1, i64 m2, i64 m3]), (14, i64 k)]) (fun _ => [[(bst, .cells (Sto.cells ⟨d, N, gen, sv, lg, num, m0, m1, m2, m3, base, last, vs, vt, vn, vu, vg⟩) 92 (0, 0))]]) (fun k => k ≤ 4) (fun k => 4 - k) 0 (Nat.zero_le _) (fun _ _ h => h) rfl (fun k hk => ?_)
  by_cases hkn : k < 4
  · have hki : (k : Int) < 4 := by omega
    have hkr : (0 : Int) ≤ k ∧ (k : Int) < (4 : Nat) := by omega
    obtain ⟨m, hm1, hm2⟩ : ∃ m : Int, ([i64 m0, i64 m1, i64 m2, i64 m3] : List Value)[(k : Int).toNat]? = some (i64 m) ∧ notIn N m seg := by
      match k, hkn with
      | 0, _ => exact ⟨m0, rfl, h0⟩
      | 1, _ => exact ⟨m1, rfl, h1⟩
      | 2, _ => exact ⟨m2, rfl, h2⟩
      | 3, _ => exact ⟨m3, rfl, h3⟩
    obtain ⟨g1, g2, g3⟩ := hm2
    (try refine wk ?_); (repeat (intro b; (try refine wk ?_)))
    refine J.op rfl ?_; refine J.isIndex ?_; refine J.give (Gives.indexA1 rfl rfl rfl hkr hm1) rfl rfl ?_
    (try refine wk ?_); (repeat (intro b; (try refine wk ?_)))
    (refine J.op rfl ?_; refine J.isCallF ?_; refine J.call (At N m (by omega) (by omega) (by omega) (by omega)) rfl rfl rfl rfl ?_; rintro _ _ ⟨rfl, rfl⟩; refine J.pn ?_)
    by_cases hin : 48 ≤ m ∧ m < 48 + (N : Int) * 32
    · have hne : ¬ segOf m = seg := fun h => g3 ⟨hin.1, hin.2, h⟩
      refine J.slot 23 (.tuple #[i64 (segOf m), i64 ((m - 48) % 32), .bool true]) rfl (by unfold atv; rw [if_pos hin]; rfl) ?_
      (try refine wk ?_); (repeat (intro b; (try refine wk ?_)))
      refine J.pick [0, 1, 13, 14] rfl ?_
      exact J.round (k + 1) hkn (by omega) (fun _ _ h => h) rfl
    · refine J.slot 23 (.tuple #[i64 0, i64 0, .bool false]) rfl (by unfold atv; rw [if_neg hin]) ?_
      (try refine wk ?_); (repeat (intro b; (try refine wk ?_)))
      refine J.pick [0, 1, 13, 14] rfl ?_
      exact J.round (k + 1) hkn (by omega) (fun _ _ h => h) rfl
  · obtain rfl : 4 = k := by omega
    (try refine wk ?_); (repeat (intro b; (try refine wk ?_)))
    refine J.done_ret (res1 rfl rfl) ?_
    exact ⟨rfl, rfl⟩
/-- The log goes on where a slot says; free is where nothing lives. -/
theorem Renew (bst gb cap : Nat) (d N : Nat) (hN : 8 ≤ N ∧ N ≤ 500) (gen : Int) (lg : Value) (hlg : lg.oneCell' = true) (num m0 m1 m2 m3 : Int) (base last : Nat) (vs vt vn vu vg : Value) (segs : List Int) (rest : List Value) (HR : Hs) (hn : segs.length ≤ 1000) (ll : List (Int × Int)) (x : Slv)
    (hL : LivesAre bst ([(bst, .cells (Sto.cells ⟨d, N, gen, slc gb 0 segs.length cap, lg, num, m0, m1, m2, m3, base, last, vs, vt, vn, vu, vg⟩) 92 (0, 0))] :: [(gb, .cells (ints segs ++ rest) 3 (0, 0))] :: HR) ll)
    (hno : ∀ s, s ∈ emptyL ll x.seg x.next segs → notIn N m0 s ∧ notIn N m1 s ∧ notIn N m2 s ∧ notIn N m3 s) :
    Sp Tryz.prog 97 #[ptr bst 0, x.v] ([(bst, .cells (Sto.cells ⟨d, N, gen, slc gb 0 segs.length cap, lg, num, m0, m1, m2, m3, base, last, vs, vt, vn, vu, vg⟩) 92 (0, 0))] :: [(gb, .cells (ints segs ++ rest) 3 (0, 0))] :: HR)
      (fun _ H => ∃ lb fv Hr, Sl 3 1 fv (emptyL ll x.seg x.next segs).length (ints (emptyL ll x.seg x.next segs)) Hr ∧
        H = [(lb, .cells (lcell d N gen x fv) 190 (0, 0))] :: Hr :: [(bst, .cells (Sto.cells ⟨d, N, gen, slc gb 0 segs.length cap, ptr lb 0, num, m0, m1, m2, m3, base, last, vs, vt, vn, vu, vg⟩) 92 (0, 0))] :: [(gb, .cells (ints segs ++ rest) 3 (0, 0))] :: HR) := by
  refine Sp.intro Tryz.func97 rfl rfl rfl fun w K => ?_
  have hE := Empty bst gb cap d N gen lg num m0 m1 m2 m3 base last vs vt vn vu vg segs rest HR hn ll hL x.seg x.next
  obtain ⟨es, hes⟩ : ∃ es, es = emptyL ll x.seg x.next segs := ⟨_, rfl⟩
  rw [← hes] at hE hno ⊢
  have hel : es.length ≤ 1000 := by
    have := List.length_filter_le (emptyB ll x.seg x.next) segs
    rw [hes]; unfold emptyL; omega
  refine J.seq ?_; refine J.region ?_; refine J.op rfl ?_
  (refine wo ?_; (try intro b))
  obtain ⟨b3, rfl⟩ : ∃ q, q = b := ⟨b, rfl⟩
  (try refine wk ?_); (repeat (intro b; (try refine wk ?_)))
  refine J.perm (H' := ([(bst, .cells (Sto.cells ⟨d, N, gen, slc gb 0 segs.length cap, lg, num, m0, m1, m2, m3, base, last, vs, vt, vn, vu, vg⟩) 92 (0, 0))] :: [(gb, .cells (ints segs ++ rest) 3 (0, 0))] :: HR) ++ [[(b3, .cells x.cells 57 (0, 0))]]) List.perm_append_comm ?_
  (refine J.op rfl ?_; refine J.isCallF ?_; refine J.call (H1 := [(bst, .cells (Sto.cells ⟨d, N, gen, slc gb 0 segs.length cap, lg, num, m0, m1, m2, m3, base, last, vs, vt, vn, vu, vg⟩) 92 (0, 0))] :: [(gb, .cells (ints segs ++ rest) 3 (0, 0))] :: HR) hE rfl rfl rfl rfl ?_)
  rintro v _ ⟨He, hs, rfl⟩; refine J.put rfl ?_
  obtain ⟨ep, ec, rfl⟩ := Sl.slice hs
  refine J.front 1 rfl rfl ?_
  refine J.perm (H' := [[(bst, .cells (Sto.cells ⟨d, N, gen, slc gb 0 segs.length cap, lg, num, m0, m1, m2, m3, base, last, vs, vt, vn, vu, vg⟩) 92 (0, 0))], He, [(gb, .cells (ints segs ++ rest) 3 (0, 0))]] ++ ([[(b3, .cells x.cells 57 (0, 0))]] ++ HR)) (List.Perm.append_left [[(bst, .cells (Sto.cells ⟨d, N, gen, slc gb 0 segs.length cap, lg, num, m0, m1, m2, m3, base, last, vs, vt, vn, vu, vg⟩) 92 (0, 0))], He, [(gb, .cells (ints segs ++ rest) 3 (0, 0))]] List.perm_append_comm) ?_
  refine J.nilAt 1 rfl ?_
  refine J.norm (H' := [(bst, .cells (Sto.cells ⟨d, N, gen, slc gb 0 segs.length cap, lg, num, m0, m1, m2, m3, base, last, vs, vt, vn, vu, vg⟩) 92 (0, 0))] :: [] :: He :: [(gb, .cells (ints segs ++ rest) 3 (0, 0))] :: [(b3, .cells x.cells 57 (0, 0))] :: HR) rfl ?_
  (try refine wk ?_); (repeat (intro b; (try refine wk ?_)))
  refine J.pick [0, 3, 4, 12, 13, 14] rfl ?_
  refine J.loop (α := Nat × Value × Heap) (fun z => [(0, ptr bst 0), (3, ptr b3 0), (4, z.2.1), (12, .slice ep es.length ec), (13, i64 es.length), (14, i64 z.1)])
    (fun z => [(bst, .cells (Sto.cells ⟨d, N, gen, slc gb 0 segs.length cap, lg, num, m0, m1, m2, m3, base, last, vs, vt, vn, vu, vg⟩) 92 (0, 0))] :: z.2.2 :: He :: [(gb, .cells (ints segs ++ rest) 3 (0, 0))] :: [(b3, .cells x.cells 57 (0, 0))] :: HR)
    (fun z => z.1 ≤ es.length ∧ Sl 3 1 z.2.1 z.1 (ints (es.take z.1)) z.2.2) (fun z => es.length - z.1) (0, nils, []) ⟨Nat.zero_le _, Sl.nil 3 1⟩ (fun _ _ h => h) rfl ?_
  rintro ⟨k, v, Hr⟩ ⟨hk, hv⟩
  simp only at hk hv
  by_cases hkn : k < es.length
  · have hki : (k : Int) < es.length := by omega
    have hkr : (0 : Int) ≤ k ∧ (k : Int) < es.length := by omega
    have htk : es.take (k + 1) = es.take k ++ [es[k]] := List.take_succ_eq_append_getElem hkn
    have hns := hno _ (List.getElem_mem hkn)
    rcases hs with ⟨_, h2, _, _⟩ | ⟨eb, ecap, erest, h1, rfl, _, _, _, _⟩
    · omega
    · obtain ⟨rfl, rfl⟩ : ep = some ⟨eb, 0, none⟩ ∧ ec = ecap := by cases h1; exact ⟨rfl, rfl⟩
      have hlk : (ints es ++ erest)[0 + (k : Int).toNat * 1]? = some (i64 es[k]) := by
        rw [show 0 + (k : Int).toNat * 1 = k by simp, List.getElem?_append_left (by simpa using hkn)]
        simp [hkn]
      generalize es[k] = s at *
      (try refine wk ?_); (repeat (intro b; (try refine wk ?_)))
      refine J.op rfl ?_; refine J.isLoad ?_; refine J.give (Gives.load1 2 rfl rfl rfl hlk) rfl rfl ?_
      (try refine wk ?_); (repeat (intro b; (try refine wk ?_)))
      (refine J.op rfl ?_; refine J.isCallF ?_; refine J.call (H1 := [_]) (HoldsNo bst d N hN gen (slc gb 0 segs.length cap) lg num m0 m1 m2 m3 base last vs vt vn vu vg s hns.1 hns.2.1 hns.2.2.1 hns.2.2.2) rfl rfl rfl rfl ?_)
      rintro _ _ ⟨rfl, rfl⟩; refine J.put rfl ?_; refine J.nm ?_
      (try refine wk ?_); (repeat (intro b; (try refine wk ?_)))
      refine J.op rfl ?_; refine J.isBuildSlice ?_; refine J.buildSl [i64 s] (cs := [i64 s]) rfl rfl rfl rfl rfl (fun v hv => by rw [List.mem_singleton.1 hv]; rfl) rfl rfl rfl ?_
      intro bn
      refine J.front 2 rfl rfl ?_
      refine J.nm ?_
      refine J.op rfl ?_; refine J.isBuiltin ?_; refine J.append (news := [i64 s]) 0 hv rfl rfl rfl rfl rfl (fun u hu => by rw [List.mem_singleton.1 hu]; rfl) (by simp) (by simp) ⟨by omega, by have : maxLen = 9223372036854775807 := rfl; omega⟩ rfl ?_
      intro v2 Hr2 hs2
      (try refine wk ?_); (repeat (intro b; (try refine wk ?_)))
      refine J.drop 1 ?_
      refine J.front 1 rfl rfl ?_
      refine J.pick [0, 3, 4, 12, 13, 14] rfl ?_
      refine J.round (k + 1, v2, Hr2) ⟨hkn, ?_⟩ (by show es.length - (k + 1) < es.length - k; omega) (fun _ _ h => h) rfl
      show Sl 3 1 v2 (k + 1) (ints (es.take (k + 1))) Hr2
      rw [htk]
      simpa [ints] using hs2
  · obtain rfl : es.length = k := by omega
    rw [List.take_length] at hv
    have hv1 := hv.one
    (try refine wk ?_); (repeat (intro b; (try refine wk ?_)))
    refine J.anyK Tryz.mixed [[(bst, .cells (Sto.cells ⟨d, N, gen, slc gb 0 segs.length cap, lg, num, m0, m1, m2, m3, base, last, vs, vt, vn, vu, vg⟩) 92 (0, 0))], [(b3, .cells x.cells 57 (0, 0))]] 22 ?_
    refine J.tkF 0 ?_
    refine J.tkF 1 ?_
    refine J.tkF 2 ?_
    refine J.tkF 3 ?_
    refine J.tkK 4 [4, 19, 20, 21, 22] ?_
    refine J.tkF 5 ?_
    refine J.tkF 6 ?_
    refine J.tkF 7 ?_
    refine J.tkK 8 [8, 19, 20, 21, 22] ?_
    refine J.tkF 9 ?_
    refine J.tkF 10 ?_
    refine J.tkF 11 ?_
    refine J.tkK 12 [12, 19, 20, 21, 22] ?_
    refine J.tkF 13 ?_
    refine J.tkF 14 ?_
    refine J.tkF 15 ?_
    refine J.tkK 16 [16, 19, 20, 21, 22] ?_
    refine J.tkK 17 [17, 19, 20, 21, 22] ?_
    refine J.tkF 18 ?_
    refine J.onK 19 ?_ -- call
    refine J.front 1 rfl rfl ?_
    refine J.nm ?_
    refine J.isCallF ?_; refine J.call (H1 := [_]) (LogNew d N gen x v es Hr (Sl.ints hv) (by omega)) rfl rfl rfl rfl ?_
    rintro _ _ ⟨lb, n, fv, Hr', rfl, hfv, rfl⟩
    have hnl : n = es.length := by
      have := hfv.len
      simp at this; omega
    subst hnl
    refine J.put rfl ?_; refine J.nm ?_
    refine J.heldK (Sub.cons 3 rfl (Sub.cons 6 rfl Sub.nil)) ?_
    refine J.tkF 20 ?_
    refine J.tkF 21 ?_
    refine J.onK 22 ?_ -- store
    (refine wo ?_; (try intro b))
    refine J.pastK (by kernel_rfl) ?_
    refine J.allK (by kernel_rfl) ?_
    refine J.drop 2 ?_
    refine J.drop 3 ?_
    refine J.drop 4 ?_
    refine J.done (fun a w _ _ => res0 rfl a.tmps w) ?_
    exact ⟨lb, fv, Hr', hfv, rfl⟩
end Go.Proofs.YF
namespace Go.Proofs.YF
open Go YE
attribute [local irreducible] CW LW OW XW AW PW HW RW AK HK AP HP DX CI LI OI BW RE MW J Gives
set_option maxHeartbeats 1000000
set_option maxRecDepth 20000

theorem SaveS (bst gb cap lb : Nat) (d N : Nat) (hN : 8 ≤ N ∧ N ≤ 500) (gen : Int) (hgen : 1 ≤ gen ∧ gen ≤ 65535) (num m0 m1 m2 m3 : Int) (hnum : 0 ≤ num ∧ num ≤ 1000000000) (base last : Nat) (vs vt vn vu vg : Value) (segs : List Int) (rest : List Value) (HR : Hs) (hn : segs.length ≤ 1000) (ll : List (Int × Int)) (x : Slv) (fv : Value)
    (w0 w1 w2 w3 : Int) (t : Rest) (db S : Nat) (wv : Value) (wr : Int) (nw : Nat) (D : List ByteArray) (ws : List (Int × Int × ByteArray)) (Hw : Heap) (hD : Secs S D) (hS : S ≤ 20000) (hS' : 48 ≤ S) (hwo : Wok S ws) (hw : Sl 139 258 wv nw (wcells ws) Hw) (hnw : nw ≤ 1000000) (hwr : 0 ≤ wr ∧ wr ≤ 1000000000)
    (hx : ({ x with num := num + 1, m0 := w0, m1 := w1, m2 := w2, m3 := w3 } : Slv).Ok)
    (hL : ∀ lg num m0 m1 m2 m3, LivesAre bst ([(bst, .cells (Sto.cells ⟨d, N, gen, slc gb 0 segs.length cap, lg, num, m0, m1, m2, m3, base, last, vs, vt, vn, vu, vg⟩) 92 (0, 0))] :: [(gb, .cells (ints segs ++ rest) 3 (0, 0))] :: HR) ll)
    (hno : ∀ s, s ∈ emptyL ll x.seg x.next segs → notIn N w0 s ∧ notIn N w1 s ∧ notIn N w2 s ∧ notIn N w3 s) :
    Sp Tryz.prog 90 #[ptr bst 0, .agg #[i64 w0, i64 w1, i64 w2, i64 w3]] ([(lb, .cells (lcell d N gen x fv) 190 (0, 0))] :: [(d, .cells (dcell t db S wv wr) 114 (0, 0))] :: [(db, .cells (dcells D) 137 (0, 0))] :: Hw :: [(bst, .cells (Sto.cells ⟨d, N, gen, slc gb 0 segs.length cap, ptr lb 0, num, m0, m1, m2, m3, base, last, vs, vt, vn, vu, vg⟩) 92 (0, 0))] :: [(gb, .cells (ints segs ++ rest) 3 (0, 0))] :: HR)
      (fun v H => ∃ lb' fv' Hr', v = .bool true ∧ Sl 3 1 fv' (emptyL ll x.seg x.next segs).length (ints (emptyL ll x.seg x.next segs)) Hr' ∧
        H = [(lb', .cells (lcell d N gen ({ x with num := num + 1, m0 := w0, m1 := w1, m2 := w2, m3 := w3 } : Slv) fv') 190 (0, 0))] :: Hr' :: [(d, .cells (dcell t db S nils (wr + 1)) 114 (0, 0))] :: [(db, .cells (dcells (flush (flush D ws) [(wr, 18 + par (num + 1), slotBlock 2 gen { x with num := num + 1, m0 := w0, m1 := w1, m2 := w2, m3 := w3 })])) 137 (0, 0))] ::
          [(bst, .cells (Sto.cells ⟨d, N, gen, slc gb 0 segs.length cap, ptr lb' 0, num + 1, w0, w1, w2, w3, base, last, vs, vt, vn, vu, vg⟩) 92 (0, 0))] :: [(gb, .cells (ints segs ++ rest) 3 (0, 0))] :: HR) := by
  refine Sp.intro Tryz.func90 rfl rfl rfl fun w K => ?_
  have hnum2 : 0 ≤ Sto.num ⟨d, N, gen, slc gb 0 segs.length cap, ptr lb 0, num, m0, m1, m2, m3, base, last, vs, vt, vn, vu, vg⟩ ∧ Sto.num ⟨d, N, gen, slc gb 0 segs.length cap, ptr lb 0, num, m0, m1, m2, m3, base, last, vs, vt, vn, vu, vg⟩ ≤ 1000000000 := hnum
  refine J.seq ?_; refine J.region ?_; refine J.op rfl ?_
  (refine wo ?_; (try intro b))
  obtain ⟨b3, rfl⟩ : ∃ q, q = b := ⟨b, rfl⟩
  (try refine wk ?_); (repeat (intro b; (try refine wk ?_)))
  refine J.front 1 rfl rfl ?_
  refine J.nm ?_
  (refine J.op rfl ?_; refine J.isCallF ?_; refine J.call (H1 := [_]) (PlaceOf lb d N gen x fv) rfl rfl rfl rfl ?_)
  rintro _ _ ⟨rfl, rfl⟩; refine J.pn ?_
  (try refine wk ?_); (repeat (intro b; (try refine wk ?_)))
  obtain ⟨b5, rfl⟩ : ∃ q, q = b := ⟨b, rfl⟩
  refine J.any Tryz.mixed [[(bst, .cells (Sto.cells ⟨d, N, gen, slc gb 0 segs.length cap, ptr lb 0, num, m0, m1, m2, m3, base, last, vs, vt, vn, vu, vg⟩) 92 (0, 0))], [(b3, .cells [i64 w0, i64 w1, i64 w2, i64 w3] 55 (0, 0))]] ?_
  refine J.tk 0 ?_
  refine J.tk 1 ?_
  refine J.tk 2 ?_
  refine J.tk 3 ?_
  refine J.tk 4 ?_
  refine J.tk 5 ?_
  refine J.tk 6 ?_
  refine J.on 7 ?_ -- store
  (refine wo ?_; (try intro b))
  refine J.hd ?_
  refine J.tk 8 ?_
  refine J.on 9 ?_ -- store
  (refine wo ?_; (try intro b))
  refine J.hd ?_
  refine J.al ?_
  (try refine wk ?_); (repeat (intro b; (try refine wk ?_)))
  refine J.any Tryz.mixed [[(bst, .cells (Sto.cells ⟨d, N, gen, slc gb 0 segs.length cap, ptr lb 0, num, m0, m1, m2, m3, base, last, vs, vt, vn, vu, vg⟩) 92 (0, 0))], [(b5, .cells ({ x with num := num + 1, m0 := w0, m1 := w1, m2 := w2, m3 := w3 } : Slv).cells 57 (0, 0))]] ?_
  refine J.tk 0 ?_
  refine J.tk 1 ?_
  refine J.tk 2 ?_
  refine J.tk 3 ?_
  refine J.tk 4 ?_
  refine J.tk 5 ?_
  refine J.tk 6 ?_
  refine J.tk 7 ?_
  refine J.tk 8 ?_
  refine J.tk 9 ?_
  refine J.tk 10 ?_
  refine J.tk 11 ?_
  refine J.tk 12 ?_
  refine J.on 13 ?_ -- call
  refine J.front 5 rfl rfl ?_
  refine J.front 5 rfl rfl ?_
  refine J.front 5 rfl rfl ?_
  refine J.nm ?_
  refine J.isCallF ?_; refine J.call (H1 := [_, _, _]) (Save d t db S wv wr nw D ws Hw hD hS hS' hwo hw hnw hwr gen hgen ({ x with num := num + 1, m0 := w0, m1 := w1, m2 := w2, m3 := w3 } : Slv) hx) rfl rfl rfl rfl ?_
  rintro _ _ ⟨rfl, rfl⟩; refine J.pn ?_
  refine J.hd ?_
  refine J.tk 14 ?_
  refine J.al ?_
  (try refine wk ?_); (repeat (intro b; (try refine wk ?_)))
  refine J.any Tryz.mixed [[(b5, .cells ({ x with num := num + 1, m0 := w0, m1 := w1, m2 := w2, m3 := w3 } : Slv).cells 57 (0, 0))], [(b3, .cells [i64 w0, i64 w1, i64 w2, i64 w3] 55 (0, 0))]] ?_
  refine J.tk 0 ?_
  refine J.tk 1 ?_
  refine J.tk 2 ?_
  refine J.tk 3 ?_
  refine J.tk 4 ?_
  refine J.tk 5 ?_
  refine J.tk 6 ?_
  refine J.on 7 ?_ -- store
  (refine wo ?_; (try intro b))
  refine J.hd ?_
  refine J.tk 8 ?_
  refine J.tk 9 ?_
  refine J.on 10 ?_ -- store
  (refine wo ?_; (try intro b))
  refine J.hd ?_
  refine J.al ?_
  (try refine wk ?_); (repeat (intro b; (try refine wk ?_)))
  refine J.perm (H' := ([(bst, .cells (Sto.cells ⟨d, N, gen, slc gb 0 segs.length cap, ptr lb 0, num + 1, w0, w1, w2, w3, base, last, vs, vt, vn, vu, vg⟩) 92 (0, 0))] :: [(gb, .cells (ints segs ++ rest) 3 (0, 0))] :: HR) ++ [[(d, .cells (dcell t db S nils (wr + 1)) 114 (0, 0))], [(db, .cells (dcells (flush (flush D ws) [(wr, 18 + par (num + 1), slotBlock 2 gen ({ x with num := num + 1, m0 := w0, m1 := w1, m2 := w2, m3 := w3 } : Slv))])) 137 (0, 0))], [(b5, .cells ({ x with num := num + 1, m0 := w0, m1 := w1, m2 := w2, m3 := w3 } : Slv).cells 57 (0, 0))], [(lb, HO.cells (lcell d N gen x fv) 190 (0, 0))], [(b3, .cells [i64 w0, i64 w1, i64 w2, i64 w3] 55 (0, 0))]]) (List.perm_append_comm (l₁ := [(bst, .cells (Sto.cells ⟨d, N, gen, slc gb 0 segs.length cap, ptr lb 0, num + 1, w0, w1, w2, w3, base, last, vs, vt, vn, vu, vg⟩) 92 (0, 0))] :: [(gb, .cells (ints segs ++ rest) 3 (0, 0))] :: HR) (l₂ := [[(d, .cells (dcell t db S nils (wr + 1)) 114 (0, 0))], [(db, .cells (dcells (flush (flush D ws) [(wr, 18 + par (num + 1), slotBlock 2 gen ({ x with num := num + 1, m0 := w0, m1 := w1, m2 := w2, m3 := w3 } : Slv))])) 137 (0, 0))], [(b5, .cells ({ x with num := num + 1, m0 := w0, m1 := w1, m2 := w2, m3 := w3 } : Slv).cells 57 (0, 0))], [(lb, HO.cells (lcell d N gen x fv) 190 (0, 0))], [(b3, .cells [i64 w0, i64 w1, i64 w2, i64 w3] 55 (0, 0))]])) ?_
  (refine J.op rfl ?_; refine J.isCallF ?_; refine J.call (H1 := [(bst, .cells (Sto.cells ⟨d, N, gen, slc gb 0 segs.length cap, ptr lb 0, num + 1, w0, w1, w2, w3, base, last, vs, vt, vn, vu, vg⟩) 92 (0, 0))] :: [(gb, .cells (ints segs ++ rest) 3 (0, 0))] :: HR) (Renew bst gb cap d N hN gen (ptr lb 0) rfl (num + 1) w0 w1 w2 w3 base last vs vt vn vu vg segs rest HR hn ll ({ x with num := num + 1, m0 := w0, m1 := w1, m2 := w2, m3 := w3 } : Slv) (hL _ _ _ _ _ _) hno) rfl rfl rfl rfl ?_)
  rintro _ _ ⟨lb', fv', Hr', hs', rfl⟩; refine J.put rfl ?_
  refine J.perm (H' := [[(d, .cells (dcell t db S nils (wr + 1)) 114 (0, 0))], [(db, .cells (dcells (flush (flush D ws) [(wr, 18 + par (num + 1), slotBlock 2 gen ({ x with num := num + 1, m0 := w0, m1 := w1, m2 := w2, m3 := w3 } : Slv))])) 137 (0, 0))], [(b5, .cells ({ x with num := num + 1, m0 := w0, m1 := w1, m2 := w2, m3 := w3 } : Slv).cells 57 (0, 0))], [(lb, HO.cells (lcell d N gen x fv) 190 (0, 0))], [(b3, .cells [i64 w0, i64 w1, i64 w2, i64 w3] 55 (0, 0))]] ++ _) List.perm_append_comm ?_
  refine J.drop 2 ?_
  refine J.drop 2 ?_
  refine J.drop 2 ?_
  (try refine wk ?_); (repeat (intro b; (try refine wk ?_)))
  refine J.front 1 rfl rfl ?_
  refine J.front 1 rfl rfl ?_
  refine J.front 3 rfl rfl ?_
  refine J.front 3 rfl rfl ?_
  refine J.nm ?_
  refine J.done_ret (res1 rfl rfl) ?_
  exact ⟨lb', fv', Hr', rfl, hs', rfl⟩
end Go.Proofs.YF
namespace Go.Proofs.YF
open Go YE
attribute [local irreducible] CW LW OW XW AW PW HW RW AK HK AP HP DX CI LI OI BW RE MW J Gives
set_option maxHeartbeats 1000000
set_option maxRecDepth 20000

abbrev sv' (t : ByteArray) : Value := .string t
abbrev wrc (h : Hdv) (lv bv : Value) (sec : Int) : List Value := [i64 h.house, i64 h.gen, i64 h.life, i64 h.seq, i64 h.next, i64 h.clock, i64 h.sb, i64 h.sn, lv, bv, i64 sec]
theorem Sl.txts {v : Value} {ts : List ByteArray} {Hx : Heap} (h : Sl 9 1 v ts.length (ts.map sv') Hx) (h1 : 1 ≤ ts.length) : Txts v ts Hx := by
  rcases h with ⟨_, h2, _, _⟩ | ⟨b, cap, rest, rfl, rfl, h3, h4, h5, _⟩
  · omega
  · refine ⟨b, 0, cap, _, 9, rfl, rfl, fun i hi => ?_, h5⟩
    rw [Nat.zero_add, List.getElem?_append_left (by simpa using hi)]
    simp [hi]
theorem PutW (wb : Nat) (h : Hdv) (lv bv : Value) (sec : Int) (hsec : 0 ≤ sec ∧ sec ≤ 1000000) (es : List Ent) (ts : List ByteArray) (n : Nat) (Hl Hb : Heap) (hl : Sl 131 3 lv n (ecells es) Hl) (hb : Sl 9 1 bv n (ts.map sv') Hb) (hn : n ≤ 1000) (e : Ent) (t : ByteArray) :
    Sp Tryz.prog 113 #[ptr wb 0, i64 e.kind, i64 e.node, i64 e.part, .string t] [[(wb, .cells (wrc h lv bv sec) 167 (0, 0))], Hl, Hb]
      (fun v H => ∃ lv' bv' Hl' Hb', v = i64 sec ∧ Sl 131 3 lv' (n + 1) (ecells (es ++ [e])) Hl' ∧ Sl 9 1 bv' (n + 1) ((ts ++ [t]).map sv') Hb' ∧ H = [[(wb, .cells (wrc h lv' bv' (sec + 1)) 167 (0, 0))], Hl', Hb']) := by
  refine Sp.intro Tryz.func113 rfl rfl rfl fun w K => ?_
  have hl1 := hl.one
  have hb1 := hb.one
  (try refine wk ?_); (repeat (intro b; (try refine wk ?_)))
  refine J.op rfl ?_; refine J.isBuild ?_; refine J.give (Gives.build (vs := [(0, i64 e.kind), (1, i64 e.node), (2, i64 e.part)]) (cells := #[i64 e.kind, i64 e.node, i64 e.part]) rfl rfl rfl) rfl rfl ?_
  refine J.op rfl ?_; refine J.isBuildSlice ?_; refine J.buildSl [.agg #[i64 e.kind, i64 e.node, i64 e.part]] (cs := [i64 e.kind, i64 e.node, i64 e.part]) rfl rfl rfl rfl rfl (fun v hv => by rw [List.mem_singleton.1 hv]; rfl) rfl rfl rfl ?_
  intro bn
  refine J.front 2 rfl rfl ?_
  refine J.nm ?_
  refine J.op rfl ?_; refine J.isBuiltin ?_; refine J.append (m := 1) (news := [i64 e.kind, i64 e.node, i64 e.part]) 0 hl rfl rfl rfl rfl rfl (by simp [Value.oneCell']) (by simp) (by simp) ⟨by omega, by have : maxLen = 9223372036854775807 := rfl; omega⟩ rfl ?_
  intro lv' Hl' hl'
  have hl1' := hl'.one
  (try refine wk ?_); (repeat (intro b; (try refine wk ?_)))
  refine J.op rfl ?_; refine J.isBuildSlice ?_; refine J.buildSl [.string t] (cs := [.string t]) rfl rfl rfl rfl rfl (fun v hv => by rw [List.mem_singleton.1 hv]; rfl) rfl rfl rfl ?_
  intro bn2
  refine J.front 4 rfl rfl ?_
  refine J.nm ?_
  refine J.op rfl ?_; refine J.isBuiltin ?_; refine J.append (m := 1) (news := [.string t]) 0 hb rfl rfl rfl rfl rfl (by simp [Value.oneCell']) (by simp) (by simp) ⟨by omega, by have : maxLen = 9223372036854775807 := rfl; omega⟩ rfl ?_
  intro bv' Hb' hb'
  have hb1' := hb'.one
  (try refine wk ?_); (repeat (intro b; (try refine wk ?_)))
  refine J.front 0 rfl rfl ?_
  refine J.front 2 rfl rfl ?_
  refine J.front 4 rfl rfl ?_
  refine J.nm ?_
  refine J.first 3 rfl ?_
  refine J.slot 10 (i64 sec) rfl (congrArg i64 (by omega)) ?_
  refine J.done_ret (res1 rfl rfl) ?_
  refine ⟨lv', bv', Hl', Hb', rfl, ?_, ?_, rfl⟩
  · simpa [ecells] using hl'
  · simpa using hb'
theorem CopyB (a mb : Nat) (ac mc : Nat) (q : Nat) (me : List MapEntry) (hm : MapOK ki kp [(1, q)] me mc) :
    Sp Tryz.prog 119 #[.map (some a), .map (some mb)] [[(a, .map [] ac)], [(mb, .map me mc)]] (fun _ H => ∃ ae ac', MapOK ki kp [(1, q)] ae ac' ∧ H = [[(a, .map ae ac')], [(mb, .map me mc)]]) := by
  refine Sp.intro Tryz.func119 rfl rfl rfl fun w K => ?_
  obtain ⟨e0, rfl, hek, hev⟩ := one_entry hm
  (try refine wk ?_); (repeat (intro b; (try refine wk ?_)))
  refine J.op rfl ?_; refine J.isRange ?_; refine J.range 1 rfl rfl rfl rfl rfl ?_; intro r
  (try refine wk ?_); (repeat (intro b; (try refine wk ?_)))
  refine J.pick [0, 7] rfl ?_
  refine J.loop (α := Option (List MapEntry × Nat)) (fun _ => [(0, .map (some a)), (7, ptr r 0)])
    (fun z => match z with
      | none => [[(r, iter mb mc [])], [(a, .map [] ac)], [(mb, .map [e0] mc)]]
      | some (ae, ac') => [[(r, iter mb mc [e0])], [(a, .map ae ac')], [(mb, .map [e0] mc)]])
    (fun z => match z with | none => True | some (ae, ac') => MapOK ki kp [(1, q)] ae ac') (fun z => match z with | none => 1 | some _ => 0) none trivial (fun _ _ h => h) rfl ?_
  rintro (_ | ⟨ae, ac'⟩) hz
  · skip
    refine J.seq ?_; refine J.region ?_
    refine J.op rfl ?_; refine J.isNext ?_; refine J.next (dn := []) (es := [e0]) (i := 2) (j := 0) (b := mb) (clk := mc) hm.lt rfl rfl rfl rfl rfl rfl (fun _ => rfl) (fun hall => ?_) (fun e he hne => ?_)
    · have := hall e0 (by simp)
      simp at this
    obtain rfl : e = e0 := by simpa using he
    (try refine wk ?_); (repeat (intro b; (try refine wk ?_)))
    refine J.op rfl ?_; refine J.isEntry ?_; refine J.give (Gives.entry (dn := []) (e := e) (es := [e]) (clk := mc) (b := mb) 2 0 hm.born (by simp) rfl rfl rfl rfl) rfl rfl ?_
    (try refine wk ?_); (repeat (intro b; (try refine wk ?_)))
    refine J.slot 14 (i64 1) rfl hek ?_
    refine J.slot 15 (ptr q 0) rfl hev ?_
    refine J.op rfl ?_; refine J.isMapUpdate ?_; refine J.mapUpdate (enc := ki) (encV := kp) (m := []) (k := 1) (v := q) 1 keyI (nil_ok ac) rfl rfl rfl rfl rfl rfl (fun _ _ => rfl) ?_
    intro ae ac' ha
    (try refine wk ?_); (repeat (intro b; (try refine wk ?_)))
    refine J.pick [0, 7] rfl ?_
    exact J.round (some (ae, ac')) ha (by show 0 < 1; omega) (fun _ _ h => h) rfl
  · skip
    refine J.seq ?_; refine J.region ?_
    refine J.op rfl ?_; refine J.isNext ?_; refine J.next (dn := [e0]) (es := [e0]) (i := 2) (j := 0) (b := mb) (clk := mc) hm.lt rfl rfl rfl rfl rfl rfl (fun _ => rfl) (fun hall => ?_) (fun e he hne => (hne (List.mem_map.2 ⟨e0, List.mem_singleton.2 rfl, by rw [List.mem_singleton.1 he]⟩)).elim)
    (try refine wk ?_); (repeat (intro b; (try refine wk ?_)))
    refine J.drop 0 ?_
    refine J.done (fun a w _ _ => res0 rfl a.tmps w) ?_
    exact ⟨ae, ac', hz, rfl⟩
end Go.Proofs.YF
namespace Go.Proofs.YF
open Go YE
attribute [local irreducible] CW LW OW XW AW PW HW RW AK HK AP HP DX CI LI OI BW RE MW J Gives
set_option maxHeartbeats 1000000
set_option maxRecDepth 20000
set_option maxHeartbeats 4000000

theorem wbuilt (hd : Hdv) (s : Int) : Tryz.prog.built 167 [(0, hd.v nils), (2, i64 s)] = some (wrc hd nils nils s).toArray := by kernel_rfl
theorem stbuilt (y : Nd) (s : Int) (am im : Nat) : Tryz.prog.built 108 [(0, bareV y), (1, i64 s), (2, .map (some am)), (3, .map (some im))] = some (stcells y s am im).toArray := by kernel_rfl
theorem WriteS (bst lb : Nat) (d N : Nat) (hN : 8 ≤ N ∧ N ≤ 500) (gen : Int) (sv : Value) (num m0 m1 m2 m3 : Int) (base last : Nat) (vs vt vn vu vg : Value) (bc : Nat) (ll : List (Int × Int)) (le : List MapEntry) (lc : Nat) (hlm : MapOK ki ki ll le lc)
    (x : Slv) (fv : Value) (xs : List Int) (Hf : Heap) (hf : Ints fv xs Hf) (hxs : xs.length ≤ 100000) (hx : 0 ≤ x.pos ∧ x.pos + 2 ≤ 32) (hseg : 0 ≤ x.seg ∧ x.seg < N) (hseq : x.seq ≤ 100000000)
    (t : Rest) (db S : Nat) (hS : S = 48 + 32 * N) (wv : Value) (wr : Int) (n : Nat) (ws : List (Int × Int × ByteArray)) (Hw : Heap) (D : List ByteArray) (hD : Secs S D) (hwo : Wok S ws) (hw : Sl 139 258 wv n (wcells ws) Hw) (hn : n ≤ 100000) (hwr : 0 ≤ wr ∧ wr ≤ 100000000)
    (pb da inn no af fr noc ac fc : Nat) (noe ae fe : List MapEntry) (am : Nat) (y : Nd) (hnm : MapOK ki Nd.v [(1, y.bare)] noe noc) (ham : MapOK ki km [(1, am)] ae ac) (hfm : MapOK ki Value.bool [(1, false)] fe fc) (hy : y.bare.okB = true) (hy1 : y.num = 1)
    (hd : Hdv) (hok : (hd.at gen x).Ok) :
    Sp Tryz.prog 63 #[ptr bst 0, ptr pb 0, hd.v nils] ([[(bst, .cells (Sto.mk d N gen sv (ptr lb 0) num m0 m1 m2 m3 base last vs vt vn vu vg).cells 92 (0, 0))], [(base, .map [] bc)], [(last, .map le lc)], [(lb, .cells (lcell d N gen x fv) 190 (0, 0))], Hf, [(d, .cells (dcell t db S wv wr) 114 (0, 0))], [(db, .cells (dcells D) 137 (0, 0))], Hw] ++ planH pb da inn no af fr noc ac fc noe ae fe ++ [[(am, .map [] 0)]])
      (fun v H => ∃ q im be bc' le' lc' fv' wv' Hw', v = .bool true ∧ MapOK ki kp [(1, q)] be bc' ∧ MapOK ki ki (aset ll x.seg x.seq) le' lc' ∧ Ints fv' xs Hf ∧
        Sl 139 258 wv' 1 (wcells [(wr + 1, 48 + 32 * x.seg + x.pos, headBlock (hd.at gen x) [⟨3, 1, 0⟩] (joinT [nodeBlock y.bare]))]) Hw' ∧
        H = [[(bst, .cells (Sto.mk d N gen sv (ptr lb 0) num m0 m1 m2 m3 base last vs vt vn vu vg).cells 92 (0, 0))], [(base, .map be bc')], [(last, .map le' lc')], [(lb, .cells (lcell d N gen (x.behind hd 2) fv') 190 (0, 0))], Hf, [(d, .cells (dcell t db S wv' (wr + 2)) 114 (0, 0))], [(db, .cells (dcells (flush D (ws ++ pwt (48 + 32 * x.seg + x.pos) wr [nodeBlock y.bare]))) 137 (0, 0))], Hw', [(q, .cells (stcells y (48 + 32 * x.seg + x.pos + 1) am im) 108 (0, 0))], [(am, .map [] 0)], [(im, .map [] 0)]]) := by
  refine Sp.intro Tryz.func63 rfl rfl rfl fun w K => ?_
  obtain ⟨e0, rfl, hek, hev⟩ := one_entry hnm
  have hdat : hd.at gen x = ⟨2, gen, x.life, x.seq, x.next, hd.clock, hd.sb, hd.sn⟩ := rfl
  refine J.seq ?_; refine J.region ?_; refine J.op rfl ?_
  (refine wo ?_; (try intro b))
  obtain ⟨b5, rfl⟩ : ∃ q, q = b := ⟨b, rfl⟩
  (try refine wk ?_); (repeat (intro b; (try refine wk ?_)))
  refine J.front 4 rfl rfl ?_
  refine J.nm ?_
  (refine J.op rfl ?_; refine J.isCallF ?_; refine J.call (H1 := [_]) (PlaceOf lb d N gen x fv) rfl rfl rfl rfl ?_)
  rintro _ _ ⟨rfl, rfl⟩; refine J.pn ?_
  (try refine wk ?_); (repeat (intro b; (try refine wk ?_)))
  obtain ⟨b7, rfl⟩ : ∃ q, q = b := ⟨b, rfl⟩
  refine J.any Tryz.mixed [[(b7, .cells x.cells 57 (0, 0))]] ?_
  refine J.tk 0 ?_
  refine J.tk 1 ?_
  refine J.tk 2 ?_
  refine J.tk 3 ?_
  refine J.tk 4 ?_
  refine J.tk 5 ?_
  refine J.al ?_
  (try refine wk ?_); (repeat (intro b; (try refine wk ?_)))
  refine J.any Tryz.mixed [[(bst, .cells (Sto.mk d N gen sv (ptr lb 0) num m0 m1 m2 m3 base last vs vt vn vu vg).cells 92 (0, 0))]] ?_
  refine J.tk 0 ?_
  refine J.tk 1 ?_
  refine J.tk 2 ?_
  refine J.tk 5 ?_
  refine J.tk 6 ?_
  refine J.tk 7 ?_
  refine J.tk 8 ?_
  refine J.tk 9 ?_
  refine J.on 3 ?_ -- call
  refine J.front 13 rfl rfl ?_
  refine J.front 13 rfl rfl ?_
  refine J.front 13 rfl rfl ?_
  refine J.front 13 rfl rfl ?_
  refine J.nm ?_
  refine J.isCallF ?_; refine J.call (H1 := [_, _, _, _]) (Size pb da inn no none 0 0 af fr [] [] [e0] 0 0 noc (by simp) (by simp) (by simp) (by omega)) rfl rfl rfl rfl ?_
  rintro _ _ ⟨rfl, rfl⟩; refine J.pn ?_
  refine J.slot 48 (i64 1) rfl rfl ?_
  refine J.hd ?_
  refine J.tk 4 ?_
  refine J.tk 10 ?_
  refine J.al ?_
  have hgt : ¬ x.pos + 1 + 1 > 32 := by omega
  (try refine wk ?_); (repeat (intro b; (try refine wk ?_)))
  refine J.any Tryz.mixed [[(b5, .cells (hd.cells nils) 95 (0, 0))], [(bst, .cells (Sto.mk d N gen sv (ptr lb 0) num m0 m1 m2 m3 base last vs vt vn vu vg).cells 92 (0, 0))]] ?_
  refine J.tk 0 ?_
  refine J.tk 1 ?_
  refine J.tk 2 ?_
  refine J.tk 3 ?_
  refine J.tk 4 ?_
  refine J.tk 5 ?_
  refine J.tk 7 ?_
  refine J.on 6 ?_ -- call
  refine J.isCallF ?_; refine J.call (H1 := []) (Start N x.seg (by omega) (by omega)) rfl rfl rfl rfl ?_
  rintro _ _ ⟨rfl, rfl⟩; refine J.pn ?_
  have hst : start N x.seg = 48 + 32 * x.seg := by unfold start; rw [if_pos hseg]; omega
  refine J.slot 64 (i64 (48 + 32 * x.seg)) rfl (congrArg i64 hst) ?_
  refine J.hd ?_
  (first | refine J.tk 8 ?_ | (refine J.tkO 8 ?_; first | refine J.giveT (Gives.build (vs := [(0, hd.v nils), (2, i64 (48 + 32 * x.seg + x.pos + 1))]) (cells := (wrc hd nils nils (48 + 32 * x.seg + x.pos + 1)).toArray) rfl rfl (wbuilt hd _)) rfl rfl ?_))
  (first | refine J.tk 9 ?_ | (refine J.tkO 9 ?_; first | refine J.giveT (Gives.build (vs := [(0, hd.v nils), (2, i64 (48 + 32 * x.seg + x.pos + 1))]) (cells := (wrc hd nils nils (48 + 32 * x.seg + x.pos + 1)).toArray) rfl rfl (wbuilt hd _)) rfl rfl ?_))
  (first | refine J.tk 10 ?_ | (refine J.tkO 10 ?_; first | refine J.giveT (Gives.build (vs := [(0, hd.v nils), (2, i64 (48 + 32 * x.seg + x.pos + 1))]) (cells := (wrc hd nils nils (48 + 32 * x.seg + x.pos + 1)).toArray) rfl rfl (wbuilt hd _)) rfl rfl ?_))
  refine J.on 11 ?_ -- box
  refine J.isBox ?_; refine J.box (cs := wrc hd nils nils (48 + 32 * x.seg + x.pos + 1)) rfl rfl rfl rfl rfl ?_; intro wb
  refine J.hd ?_
  refine J.tk 12 ?_
  refine J.al ?_
  (try refine wk ?_); (repeat (intro b; (try refine wk ?_)))
  refine J.front 2 rfl rfl ?_
  refine J.nm ?_
  (refine J.op rfl ?_; refine J.isCallF ?_; refine J.call (H1 := [_]) (SortedStr da 0) rfl rfl rfl rfl ?_)
  rintro _ _ ⟨rfl, rfl⟩; refine J.pn ?_
  (try refine wk ?_); (repeat (intro b; (try refine wk ?_)))
  refine J.pick [0, 1, 7, 8, 10, 74, 75, 76] rfl ?_
  refine J.loop (α := Unit) (fun _ => _) (fun _ => _) (fun _ => True) (fun _ => 0) () trivial (fun _ _ h => h) rfl (fun _ _ => ?_)
  (try refine wk ?_); (repeat (intro b; (try refine wk ?_)))
  refine J.op rfl ?_; refine J.isRange ?_; refine J.range 5 rfl rfl rfl rfl rfl ?_; intro r
  (try refine wk ?_); (repeat (intro b; (try refine wk ?_)))
  obtain ⟨nm, rfl⟩ : ∃ q, q = b := ⟨b, rfl⟩
  refine J.pick [0, 1, 7, 8, 10, 13, 107] rfl ?_
  refine J.loop (α := Option (Nat × List MapEntry × Nat)) (fun _ => [(0, ptr bst 0), (1, ptr pb 0), (7, ptr b7 0), (8, i64 x.seg), (10, ptr wb 0), (13, .map (some nm)), (107, ptr r 0)])
    (fun z => match z with
      | none => [[(r, iter no noc [])], [(nm, .map [] 0)], [(da, .map [] 0)], [(wb, .cells (wrc hd nils nils (48 + 32 * x.seg + x.pos + 1)) 167 (0, 0))], [(pb, .cells (pcells da inn no nils af fr) 159 (0, 0))], [(inn, .map [] 0)], [(no, .map [e0] noc)], [(b7, .cells x.cells 57 (0, 0))], [(lb, .cells (lcell d N gen x fv) 190 (0, 0))], [(b5, .cells (hd.cells nils) 95 (0, 0))], [(bst, .cells (Sto.mk d N gen sv (ptr lb 0) num m0 m1 m2 m3 base last vs vt vn vu vg).cells 92 (0, 0))], [(base, .map [] bc)], [(last, .map le lc)], Hf, [(d, .cells (dcell t db S wv wr) 114 (0, 0))], [(db, .cells (dcells D) 137 (0, 0))], Hw, [(af, .map ae ac)], [(fr, .map fe fc)], [(am, .map [] 0)]]
      | some (im, ie, ic) => [[(r, iter no noc [e0])], [(im, .map [] 0)], [(nm, .map ie ic)], [(da, .map [] 0)], [(wb, .cells (wrc hd nils nils (48 + 32 * x.seg + x.pos + 1)) 167 (0, 0))], [(pb, .cells (pcells da inn no nils af fr) 159 (0, 0))], [(inn, .map [] 0)], [(no, .map [e0] noc)], [(b7, .cells x.cells 57 (0, 0))], [(lb, .cells (lcell d N gen x fv) 190 (0, 0))], [(b5, .cells (hd.cells nils) 95 (0, 0))], [(bst, .cells (Sto.mk d N gen sv (ptr lb 0) num m0 m1 m2 m3 base last vs vt vn vu vg).cells 92 (0, 0))], [(base, .map [] bc)], [(last, .map le lc)], Hf, [(d, .cells (dcell t db S wv wr) 114 (0, 0))], [(db, .cells (dcells D) 137 (0, 0))], Hw, [(af, .map ae ac)], [(fr, .map fe fc)], [(am, .map [] 0)]])
    (fun z => match z with | none => True | some (im, ie, ic) => MapOK ki km [(1, im)] ie ic) (fun z => match z with | none => 1 | some _ => 0) none trivial (fun _ _ h => h) rfl ?_
  rintro (_ | ⟨im, ie, ic⟩) hz
  · skip
    refine J.seq ?_; refine J.region ?_
    refine J.op rfl ?_; refine J.isNext ?_; refine J.next (dn := []) (es := [e0]) (i := 6) (j := 0) (b := no) (clk := noc) hnm.lt rfl rfl rfl rfl rfl rfl (fun _ => rfl) (fun hall => ?_) (fun e he hne => ?_)
    · have := hall e0 (by simp)
      simp at this
    obtain rfl : e = e0 := by simpa using he
    (try refine wk ?_); (repeat (intro b; (try refine wk ?_)))
    refine J.op rfl ?_; refine J.isEntry ?_; refine J.give (Gives.entry (dn := []) (e := e) (es := [e]) (clk := noc) (b := no) 6 0 hnm.born (by simp) rfl rfl rfl rfl) rfl rfl ?_
    (try refine wk ?_); (repeat (intro b; (try refine wk ?_)))
    refine J.slot 14 (i64 1) rfl hek ?_
    refine J.slot 113 (i64 1) rfl hek ?_
    refine J.op rfl ?_; refine J.isMapUpdate ?_; refine J.mapUpdate (enc := ki) (encV := km) (m := []) (k := 1) (v := b) 2 keyI (nil_ok 0) rfl rfl rfl rfl rfl rfl (fun _ _ => rfl) ?_
    intro ie ic hi
    refine J.nm ?_
    (try refine wk ?_); (repeat (intro b; (try refine wk ?_)))
    refine J.op rfl ?_; refine J.isLookup ?_; refine J.give (Gives.look (enc := ki) (encV := kp) (m := []) (k := 1) 12 keyI (nil_ok bc) rfl rfl rfl rfl) rfl rfl ?_
    refine J.slot 120 (.pointer none) rfl rfl ?_
    (try refine wk ?_); (repeat (intro b; (try refine wk ?_)))
    refine J.front 1 rfl rfl ?_
    refine J.pick [0, 1, 7, 8, 10, 13, 107] rfl ?_
    exact J.round (some (b, ie, ic)) hi (by show 0 < 1; omega) (fun _ _ h => h) rfl
  refine J.seq ?_; refine J.region ?_
  refine J.op rfl ?_; refine J.isNext ?_; refine J.next (dn := [e0]) (es := [e0]) (i := 7) (j := 0) (b := no) (clk := noc) hnm.lt rfl rfl rfl rfl rfl rfl (fun _ => rfl) (fun hall => ?_) (fun e he hne => (hne (List.mem_map.2 ⟨e0, List.mem_singleton.2 rfl, by rw [List.mem_singleton.1 he]⟩)).elim)
  (try refine wk ?_); (repeat (intro b; (try refine wk ?_)))
  refine J.front 6 rfl rfl ?_
  refine J.nm ?_
  (refine J.op rfl ?_; refine J.isCallF ?_; refine J.call (H1 := [_]) (SortedBool inn 0) rfl rfl rfl rfl ?_)
  rintro _ _ ⟨rfl, rfl⟩; refine J.pn ?_
  (try refine wk ?_); (repeat (intro b; (try refine wk ?_)))
  refine J.op rfl ?_; refine J.isBuildSlice ?_; refine J.buildSl [.bool false, .bool true] (cs := [.bool false, .bool true]) rfl rfl rfl rfl rfl (fun v hv => by
      rcases List.mem_cons.1 hv with rfl | hv
      · rfl
      · rw [List.mem_singleton.1 hv]; rfl) rfl rfl rfl ?_
  intro b160
  (try refine wk ?_); (repeat (intro b; (try refine wk ?_)))
  refine J.pick [0, 1, 7, 8, 10, 13, 18, 160, 161, 162] rfl ?_
  refine J.loop (α := Nat) (fun k => [(0, ptr bst 0), (1, ptr pb 0), (7, ptr b7 0), (8, i64 x.seg), (10, ptr wb 0), (13, .map (some nm)), (18, nils), (160, slc b160 0 2 2), (161, i64 (2 : Nat)), (162, i64 k)]) (fun _ => _) (fun k => k ≤ 2) (fun k => 2 - k) 0 (Nat.zero_le _) (fun _ _ h => h) rfl (fun k hk => ?_)
  by_cases hk2 : k < 2
  · have hki : (k : Int) < (2 : Nat) := by omega
    have hkr : (0 : Int) ≤ k ∧ (k : Int) < (2 : Nat) := by omega
    obtain ⟨bb, hbb⟩ : ∃ bb : Bool, ([.bool false, .bool true] : List Value)[0 + (k : Int).toNat * 1]? = some (.bool bb) := by
      match k, hk2 with
      | 0, _ => exact ⟨false, rfl⟩
      | 1, _ => exact ⟨true, rfl⟩
    (try refine wk ?_); (repeat (intro b; (try refine wk ?_)))
    refine J.op rfl ?_; refine J.isLoad ?_; refine J.give (Gives.load1 0 rfl rfl rfl hbb) rfl rfl ?_
    (try refine wk ?_); (repeat (intro b; (try refine wk ?_)))
    refine J.pick [0, 1, 7, 8, 10, 13, 18, 160, 161, 162, 166, 167, 168] rfl ?_
    refine J.loop (α := Unit) (fun _ => _) (fun _ => _) (fun _ => True) (fun _ => 0) () trivial (fun _ _ h => h) rfl (fun _ _ => ?_)
    (try refine wk ?_); (repeat (intro b; (try refine wk ?_)))
    refine J.pick [0, 1, 7, 8, 10, 13, 18, 160, 161, 162] rfl ?_
    exact J.round (k + 1) hk2 (by omega) (fun _ _ h => h) rfl
  obtain rfl : 2 = k := by omega
  (try refine wk ?_); (repeat (intro b; (try refine wk ?_)))
  obtain ⟨mm, rfl⟩ : ∃ q, q = b := ⟨b, rfl⟩
  refine J.drop 1 ?_
  refine J.drop 2 ?_
  refine J.drop 1 ?_
  refine J.drop 3 ?_
  refine J.drop 8 ?_
  refine J.drop 16 ?_
  refine J.nm ?_
  (refine J.op rfl ?_; refine J.isCallF ?_; refine J.call (H1 := []) (Keys45 no) rfl rfl rfl rfl ?_)
  rintro _ _ ⟨bb, rfl, rfl⟩; refine J.pn ?_
  refine J.front 6 rfl rfl ?_
  refine J.front 1 rfl rfl ?_
  refine J.nm ?_
  (refine J.op rfl ?_; refine J.isCallF ?_; refine J.call (H1 := [_, _]) (SortedI Tryz.func162 rfl rfl (Seq45 bb no [(1, y.bare)] [e0] noc hnm) (fun pre h => by simp at h; omega) (fun xs h => by have := h.length_eq; simp at this; omega)) rfl rfl rfl rfl ?_)
  rintro v _ ⟨xs1, Hr, hp1, hs1, rfl⟩; refine J.put rfl ?_; refine J.nm ?_
  obtain rfl : xs1 = [1] := List.perm_singleton.1 hp1
  rcases hs1 with ⟨_, h1, _, _⟩ | ⟨sb, scap, srest, rfl, rfl, _, _, hsc, _⟩
  · simp at h1
  refine J.drop 1 ?_
  refine J.nm ?_
  (try refine wk ?_); (repeat (intro b; (try refine wk ?_)))
  refine J.pick [0, 1, 7, 8, 10, 13, 23, 211, 212, 213] rfl ?_
  refine J.loop (α := Option (Nat × List MapEntry × Nat × Value × Value × Heap × Heap)) (fun z => [(0, ptr bst 0), (1, ptr pb 0), (7, ptr b7 0), (8, i64 x.seg), (10, ptr wb 0), (13, .map (some nm)), (23, .map (some mm)), (211, slc sb 0 1 scap), (212, i64 (1 : Nat)), (213, match z with | none => i64 0 | some _ => i64 1)])
    (fun z => match z with
      | none => [[(sb, .cells ([i64 1] ++ srest) 3 (0, 0))], [(no, .map [e0] noc)], [(mm, .map [] 0)], [(im, .map [] 0)], [(nm, .map ie ic)], [(wb, .cells (wrc hd nils nils (48 + 32 * x.seg + x.pos + 1)) 167 (0, 0))], [(pb, .cells (pcells da inn no nils af fr) 159 (0, 0))], [(b7, .cells x.cells 57 (0, 0))], [(lb, .cells (lcell d N gen x fv) 190 (0, 0))], [(bst, .cells (Sto.mk d N gen sv (ptr lb 0) num m0 m1 m2 m3 base last vs vt vn vu vg).cells 92 (0, 0))], [(base, .map [] bc)], [(last, .map le lc)], Hf, [(d, .cells (dcell t db S wv wr) 114 (0, 0))], [(db, .cells (dcells D) 137 (0, 0))], Hw, [(af, .map ae ac)], [(am, .map [] 0)]]
      | some (q, me, mc, lv, bv, Hl, Hb) => [[(q, .cells (stcells y (48 + 32 * x.seg + x.pos + 1) am im) 108 (0, 0))], [(wb, .cells (wrc hd lv bv (48 + 32 * x.seg + x.pos + 1 + 1)) 167 (0, 0))], Hl, Hb, [(no, .map [e0] noc)], [(pb, .cells (pcells da inn no nils af fr) 159 (0, 0))], [(af, .map ae ac)], [(nm, .map ie ic)], [(sb, .cells ([i64 1] ++ srest) 3 (0, 0))], [(mm, .map me mc)], [(im, .map [] 0)], [(b7, .cells x.cells 57 (0, 0))], [(lb, .cells (lcell d N gen x fv) 190 (0, 0))], [(bst, .cells (Sto.mk d N gen sv (ptr lb 0) num m0 m1 m2 m3 base last vs vt vn vu vg).cells 92 (0, 0))], [(base, .map [] bc)], [(last, .map le lc)], Hf, [(d, .cells (dcell t db S wv wr) 114 (0, 0))], [(db, .cells (dcells D) 137 (0, 0))], Hw, [(am, .map [] 0)]])
    (fun z => match z with | none => True | some (q, me, mc, lv, bv, Hl, Hb) => MapOK ki kp [(1, q)] me mc ∧ Sl 131 3 lv 1 (ecells [⟨3, 1, 0⟩]) Hl ∧ Sl 9 1 bv 1 ([nodeBlock y.bare].map sv') Hb) (fun z => match z with | none => 1 | some _ => 0) none trivial (fun _ _ h => h) rfl ?_
  have hlt01 : (0 : Int) < ((1 : Nat) : Int) := by omega
  have hr01 : (0 : Int) ≤ 0 ∧ (0 : Int) < ((1 : Nat) : Int) := by omega
  rintro (_ | ⟨q, me, mc, lv, bv, Hl, Hb⟩) hz2
  · (try refine wk ?_); (repeat (intro b; (try refine wk ?_)))
    refine J.op rfl ?_; refine J.isLookup ?_; refine J.give (Gives.look (enc := ki) (encV := Nd.v) (k := 1) 1 keyI hnm rfl rfl rfl rfl) rfl rfl ?_
    refine J.slot 222 (bareV y) rfl rfl ?_
    (try refine wk ?_); (repeat (intro b; (try refine wk ?_)))
    obtain ⟨b26, rfl⟩ : ∃ q, q = b := ⟨b, rfl⟩
    refine J.pick [0, 1, 7, 8, 10, 13, 23, 25, 26, 211, 212, 213, 223] rfl ?_
    refine J.loop (α := Nat) (fun k => [(0, ptr bst 0), (1, ptr pb 0), (7, ptr b7 0), (8, i64 x.seg), (10, ptr wb 0), (13, .map (some nm)), (23, .map (some mm)), (25, i64 1), (26, ptr b26 0), (211, slc sb 0 1 scap), (212, i64 (1 : Nat)), (213, i64 0), (223, i64 k)]) (fun _ => [(b26, .cells (bareC y) 31 (0, 0))] :: _) (fun k => k ≤ 12) (fun k => 12 - k) 0 (Nat.zero_le _) (fun _ _ h => h) rfl (fun k hk => ?_)
    by_cases hk12 : k < 12
    · have hkc : k = 0 ∨ k = 1 ∨ k = 2 ∨ k = 3 ∨ k = 4 ∨ k = 5 ∨ k = 6 ∨ k = 7 ∨ k = 8 ∨ k = 9 ∨ k = 10 ∨ k = 11 := by omega
      rcases hkc with rfl | rfl | rfl | rfl | rfl | rfl | rfl | rfl | rfl | rfl | rfl | rfl
      all_goals
        (try refine wk ?_); (repeat (intro b; (try refine wk ?_)))
        refine J.op rfl ?_; refine J.isLookup ?_; refine J.give (Gives.look (enc := ki) (encV := km) (k := 1) 17 keyI ham rfl rfl rfl rfl) rfl rfl ?_
        refine J.slot 232 (.map (some am)) rfl rfl ?_
        (try refine wk ?_); (repeat (intro b; (try refine wk ?_)))
        refine J.op rfl ?_; refine J.isLookup ?_; refine J.give (Gives.look (enc := ki) (encV := ki) (m := []) 18 keyI (nil_ok 0) rfl rfl rfl rfl) rfl rfl ?_
        refine J.slot 234 (i64 0) rfl rfl ?_
        (try refine wk ?_); (repeat (intro b; (try refine wk ?_)))
        refine J.pick [0, 1, 7, 8, 10, 13, 23, 25, 26, 211, 212, 213, 223] rfl ?_
        exact J.round (_ + 1) hk12 (by omega) (fun _ _ h => h) rfl
    obtain rfl : 12 = k := by omega
    (try refine wk ?_); (repeat (intro b; (try refine wk ?_)))
    refine J.any Tryz.mixed [[(nm, .map ie ic)], [(im, .map [] 0)]] ?_
    refine J.tk 0 ?_
    refine J.tk 1 ?_
    (first | refine J.tk 2 ?_ | (refine J.tkO 2 ?_; first | refine J.giveT (Gives.look (enc := ki) (encV := km) (k := 1) 0 keyI hz rfl rfl rfl rfl) rfl rfl ?_ | refine J.giveT (Gives.look (enc := ki) (encV := ki) (m := []) 1 keyI (nil_ok 0) rfl rfl rfl rfl) rfl rfl ?_))
    (first | refine J.tk 3 ?_ | (refine J.tkO 3 ?_; first | refine J.giveT (Gives.look (enc := ki) (encV := km) (k := 1) 0 keyI hz rfl rfl rfl rfl) rfl rfl ?_ | refine J.giveT (Gives.look (enc := ki) (encV := ki) (m := []) 1 keyI (nil_ok 0) rfl rfl rfl rfl) rfl rfl ?_))
    refine J.tk 4 ?_
    refine J.tk 5 ?_
    (first | refine J.tk 6 ?_ | (refine J.tkO 6 ?_; first | refine J.giveT (Gives.look (enc := ki) (encV := km) (k := 1) 0 keyI hz rfl rfl rfl rfl) rfl rfl ?_ | refine J.giveT (Gives.look (enc := ki) (encV := ki) (m := []) 1 keyI (nil_ok 0) rfl rfl rfl rfl) rfl rfl ?_))
    (first | refine J.tk 7 ?_ | (refine J.tkO 7 ?_; first | refine J.giveT (Gives.look (enc := ki) (encV := km) (k := 1) 0 keyI hz rfl rfl rfl rfl) rfl rfl ?_ | refine J.giveT (Gives.look (enc := ki) (encV := ki) (m := []) 1 keyI (nil_ok 0) rfl rfl rfl rfl) rfl rfl ?_))
    refine J.tk 8 ?_
    (first | refine J.tk 9 ?_ | (refine J.tkO 9 ?_; first | refine J.giveT (Gives.look (enc := ki) (encV := km) (k := 1) 0 keyI hz rfl rfl rfl rfl) rfl rfl ?_ | refine J.giveT (Gives.look (enc := ki) (encV := ki) (m := []) 1 keyI (nil_ok 0) rfl rfl rfl rfl) rfl rfl ?_))
    refine J.tk 11 ?_
    refine J.on 10 ?_ -- store
    refine J.slot 241 (i64 0) rfl rfl ?_
    refine J.slot 245 (i64 0) rfl rfl ?_
    (refine wo ?_; (try intro b))
    refine J.hd ?_
    refine J.tk 12 ?_
    refine J.on 13 ?_ -- store
    (refine wo ?_; (try intro b))
    refine J.hd ?_
    refine J.al ?_
    (try refine wk ?_); (repeat (intro b; (try refine wk ?_)))
    refine J.slot 251 y.bare.v rfl rfl ?_
    (refine J.op rfl ?_; refine J.isCallF ?_; refine J.call (NodePut y.bare (by simp [Nd.bare]) hy) rfl rfl rfl rfl ?_; rintro _ _ ⟨rfl, rfl⟩; refine J.pn ?_)
    refine J.front 5 rfl rfl ?_
    refine J.front 17 rfl rfl ?_
    refine J.front 8 rfl rfl ?_
    refine J.front 5 rfl rfl ?_
    refine J.nm ?_
    (try refine wk ?_); (repeat (intro b; (try refine wk ?_)))
    refine J.any Tryz.mixed [[(pb, .cells (pcells da inn no nils af fr) 159 (0, 0))], [(no, .map [e0] noc)], [(af, .map ae ac)], [(nm, .map ie ic)]] ?_
    refine J.tk 0 ?_
    refine J.tk 1 ?_
    refine J.tk 2 ?_
    refine J.tk 3 ?_
    refine J.tk 4 ?_
    (first | refine J.tk 5 ?_ | (refine J.tkO 5 ?_; first | refine J.giveT (Gives.look (enc := ki) (encV := Nd.v) (k := 1) 1 keyI hnm rfl rfl rfl rfl) rfl rfl ?_ | refine J.giveT (Gives.look (enc := ki) (encV := km) (k := 1) 2 keyI ham rfl rfl rfl rfl) rfl rfl ?_ | refine J.giveT (Gives.look (enc := ki) (encV := km) (k := 1) 3 keyI hz rfl rfl rfl rfl) rfl rfl ?_))
    refine J.tk 6 ?_
    (first | refine J.tk 7 ?_ | (refine J.tkO 7 ?_; first | refine J.giveT (Gives.look (enc := ki) (encV := Nd.v) (k := 1) 1 keyI hnm rfl rfl rfl rfl) rfl rfl ?_ | refine J.giveT (Gives.look (enc := ki) (encV := km) (k := 1) 2 keyI ham rfl rfl rfl rfl) rfl rfl ?_ | refine J.giveT (Gives.look (enc := ki) (encV := km) (k := 1) 3 keyI hz rfl rfl rfl rfl) rfl rfl ?_))
    refine J.tk 8 ?_
    refine J.tk 9 ?_
    refine J.tk 10 ?_
    refine J.tk 12 ?_
    refine J.tk 13 ?_
    refine J.tk 14 ?_
    (first | refine J.tk 15 ?_ | (refine J.tkO 15 ?_; first | refine J.giveT (Gives.look (enc := ki) (encV := Nd.v) (k := 1) 1 keyI hnm rfl rfl rfl rfl) rfl rfl ?_ | refine J.giveT (Gives.look (enc := ki) (encV := km) (k := 1) 2 keyI ham rfl rfl rfl rfl) rfl rfl ?_ | refine J.giveT (Gives.look (enc := ki) (encV := km) (k := 1) 3 keyI hz rfl rfl rfl rfl) rfl rfl ?_))
    refine J.tk 16 ?_
    (first | refine J.tk 17 ?_ | (refine J.tkO 17 ?_; first | refine J.giveT (Gives.look (enc := ki) (encV := Nd.v) (k := 1) 1 keyI hnm rfl rfl rfl rfl) rfl rfl ?_ | refine J.giveT (Gives.look (enc := ki) (encV := km) (k := 1) 2 keyI ham rfl rfl rfl rfl) rfl rfl ?_ | refine J.giveT (Gives.look (enc := ki) (encV := km) (k := 1) 3 keyI hz rfl rfl rfl rfl) rfl rfl ?_))
    refine J.tk 18 ?_
    refine J.tk 19 ?_
    (first | refine J.tk 20 ?_ | (refine J.tkO 20 ?_; first | refine J.giveT (Gives.look (enc := ki) (encV := Nd.v) (k := 1) 1 keyI hnm rfl rfl rfl rfl) rfl rfl ?_ | refine J.giveT (Gives.look (enc := ki) (encV := km) (k := 1) 2 keyI ham rfl rfl rfl rfl) rfl rfl ?_ | refine J.giveT (Gives.look (enc := ki) (encV := km) (k := 1) 3 keyI hz rfl rfl rfl rfl) rfl rfl ?_))
    refine J.on 11 ?_ -- call
    refine J.front 8 rfl rfl ?_
    refine J.nm ?_
    refine J.nilAt 1 rfl ?_
    refine J.nilAt 1 rfl ?_
    refine J.nm ?_
    refine J.isCallF ?_; refine J.call (H1 := [_, _, _]) (PutW wb hd nils nils (48 + 32 * x.seg + x.pos + 1) (by omega) [] [] 0 [] [] (Sl.nil 131 3) (Sl.nil 9 1) (by omega) ⟨3, 1, 0⟩ (nodeBlock y.bare)) rfl rfl rfl rfl ?_
    rintro _ _ ⟨lv, bv, Hl, Hb, rfl, hl, hb, rfl⟩; refine J.put rfl ?_; refine J.nm ?_
    refine J.hd ?_
    (first | refine J.tk 21 ?_ | (refine J.tkO 21 ?_; first | refine J.giveT (Gives.look (enc := ki) (encV := Nd.v) (k := 1) 1 keyI hnm rfl rfl rfl rfl) rfl rfl ?_ | refine J.giveT (Gives.look (enc := ki) (encV := km) (k := 1) 2 keyI ham rfl rfl rfl rfl) rfl rfl ?_ | refine J.giveT (Gives.look (enc := ki) (encV := km) (k := 1) 3 keyI hz rfl rfl rfl rfl) rfl rfl ?_ | refine J.giveT (Gives.build (vs := [(0, bareV y), (1, i64 (48 + 32 * x.seg + x.pos + 1)), (2, .map (some am)), (3, .map (some im))]) (cells := (stcells y (48 + 32 * x.seg + x.pos + 1) am im).toArray) rfl rfl (stbuilt y _ am im)) rfl rfl ?_))
    refine J.on 22 ?_ -- box
    refine J.isBox ?_; refine J.box (cs := stcells y (48 + 32 * x.seg + x.pos + 1) am im) rfl rfl rfl rfl rfl ?_; intro q
    refine J.hd ?_
    refine J.on 23 ?_ -- mapUpdate
    refine J.isMapUpdate ?_; refine J.mapUpdate (enc := ki) (encV := kp) (m := []) (k := 1) (v := q) 10 keyI (nil_ok 0) rfl rfl rfl rfl rfl rfl (fun _ _ => rfl) ?_
    intro me mc hme
    refine J.nm ?_
    refine J.hd ?_
    refine J.al ?_
    (try refine wk ?_); (repeat (intro b; (try refine wk ?_)))
    refine J.drop 8 ?_
    refine J.nm ?_
    refine J.slot 213 (i64 1) rfl rfl ?_
    refine J.pick [0, 1, 7, 8, 10, 13, 23, 211, 212, 213] rfl ?_
    exact J.round (some (q, me, mc, lv, bv, Hl, Hb)) ⟨hme, hl, hb⟩ (by show 0 < 1; omega) (fun _ _ h => h) rfl
  obtain ⟨hme, hl, hb⟩ := hz2
  have hge11 : ¬ (1 : Int) < ((1 : Nat) : Int) := by omega
  (try refine wk ?_); (repeat (intro b; (try refine wk ?_)))
  refine J.drop 4 ?_
  refine J.drop 5 ?_
  refine J.drop 5 ?_
  refine J.drop 5 ?_
  refine J.nm ?_
  refine J.pick [0, 1, 7, 8, 10, 13, 23, 282, 283, 284] rfl ?_
  refine J.loop (α := Unit) (fun _ => _) (fun _ => _) (fun _ => True) (fun _ => 0) () trivial (fun _ _ h => h) rfl (fun _ _ => ?_)
  (try refine wk ?_); (repeat (intro b; (try refine wk ?_)))
  refine J.any Tryz.mixed [[(bst, .cells (Sto.mk d N gen sv (ptr lb 0) num m0 m1 m2 m3 base last vs vt vn vu vg).cells 92 (0, 0))], [(wb, .cells (wrc hd lv bv (48 + 32 * x.seg + x.pos + 1 + 1)) 167 (0, 0))]] ?_
  refine J.tk 0 ?_
  refine J.tk 1 ?_
  refine J.tk 2 ?_
  refine J.tk 3 ?_
  refine J.tk 4 ?_
  refine J.tk 5 ?_
  refine J.tk 6 ?_
  refine J.tk 7 ?_
  refine J.tk 8 ?_
  refine J.tk 9 ?_
  refine J.tk 10 ?_
  refine J.tk 11 ?_
  refine J.on 12 ?_ -- call
  refine J.front 3 rfl rfl ?_
  refine J.front 3 rfl rfl ?_
  refine J.front 15 rfl rfl ?_
  refine J.front 15 rfl rfl ?_
  refine J.front 15 rfl rfl ?_
  refine J.front 15 rfl rfl ?_
  refine J.front 12 rfl rfl ?_
  refine J.nm ?_
  have hent : ∀ e : Ent, e ∈ [(⟨3, 1, 0⟩ : Ent)] → e.Ok := by
    intro e he
    obtain rfl := List.mem_singleton.1 he
    exact ⟨by decide, by decide, by decide, .inl (by decide)⟩
  have hlen1 : (([nodeBlock y.bare] : List ByteArray).length : Int) = 1 := rfl
  have hsz1 : ∀ t, t ∈ [nodeBlock y.bare] → t.size = 256 := by
    intro t ht
    rw [List.mem_singleton.1 ht]; exact nodeBlock_size _ (by simp [Nd.bare])
  refine J.isCallF ?_; refine J.call (H1 := [_, _, _, _, _, _, _]) (Append lb d N gen x fv xs Hf hf hxs (by omega) t db S wv wr n ws Hw D hD hwo hw hn hwr hd lv 1 [⟨3, 1, 0⟩] Hl hl (by decide) hent bv [nodeBlock y.bare] Hb (Sl.txts hb (Nat.le_refl 1)) rfl (Nat.le_refl 1) hsz1 x xs (.inl ⟨by rw [hlen1]; omega, rfl, rfl⟩) hseg ⟨hx.1, by rw [hlen1]; omega⟩ hN hS hok (by omega)) rfl rfl rfl rfl ?_
  rintro r1 Hq ⟨sv1, m1', Hs, fv', wv', Hw', hr1, _, hf', hw', hH⟩
  have e1 : wr + (([nodeBlock y.bare] : List ByteArray).length : Int) = wr + 1 := rfl
  have e2 : wr + 1 + 1 = wr + 2 := by omega
  have e3 : (1 : Int) + (([nodeBlock y.bare] : List ByteArray).length : Int) = 2 := rfl
  rw [e1] at hw' hH
  rw [e2, e3] at hH
  subst hr1; subst hH
  refine J.put rfl ?_; refine J.nm ?_
  refine J.front 9 rfl rfl ?_
  refine J.front 14 rfl rfl ?_
  refine J.nm ?_
  refine J.hd ?_
  refine J.tk 13 ?_
  refine J.tk 14 ?_
  refine J.tk 15 ?_
  refine J.tk 16 ?_
  refine J.tk 17 ?_
  refine J.al ?_
  (try refine wk ?_); (repeat (intro b; (try refine wk ?_)))
  refine J.front 12 rfl rfl ?_
  refine J.front 15 rfl rfl ?_
  refine J.nm ?_
  (refine J.op rfl ?_; refine J.isCallF ?_; refine J.call (H1 := [_, _]) (CopyB base mm bc mc q me hme) rfl rfl rfl rfl ?_)
  rintro _ _ ⟨be, bc', hbe, rfl⟩; refine J.put rfl ?_; refine J.nm ?_
  refine J.front 13 rfl rfl ?_
  refine J.front 1 rfl rfl ?_
  refine J.front 16 rfl rfl ?_
  refine J.front 16 rfl rfl ?_
  refine J.front 5 rfl rfl ?_
  refine J.nm ?_
  (try refine wk ?_); (repeat (intro b; (try refine wk ?_)))
  refine J.pick [0, 1, 7, 8, 320, 321, 322] rfl ?_
  refine J.loop (α := Unit) (fun _ => _) (fun _ => _) (fun _ => True) (fun _ => 0) () trivial (fun _ _ h => h) rfl (fun _ _ => ?_)
  (try refine wk ?_); (repeat (intro b; (try refine wk ?_)))
  refine J.any Tryz.mixed [[(bst, .cells (Sto.mk d N gen sv (ptr lb 0) num m0 m1 m2 m3 base last vs vt vn vu vg).cells 92 (0, 0))], [(b7, .cells x.cells 57 (0, 0))]] ?_
  refine J.tk 0 ?_
  refine J.tk 1 ?_
  refine J.tk 2 ?_
  refine J.tk 3 ?_
  refine J.tk 4 ?_
  refine J.tk 5 ?_
  refine J.tk 6 ?_
  refine J.on 7 ?_ -- mapUpdate
  refine J.isMapUpdate ?_; refine J.mapUpdate (enc := ki) (encV := ki) (m := ll) (k := x.seg) (v := x.seq) 2 keyI hlm rfl rfl rfl rfl rfl rfl (fun _ _ => rfl) ?_
  intro le' lc' hl'
  refine J.nm ?_
  refine J.hd ?_
  refine J.al ?_
  (try refine wk ?_); (repeat (intro b; (try refine wk ?_)))
  refine J.front 16 rfl rfl ?_
  refine J.front 17 rfl rfl ?_
  refine J.front 17 rfl rfl ?_
  refine J.front 14 rfl rfl ?_
  refine J.front 14 rfl rfl ?_
  refine J.front 14 rfl rfl ?_
  refine J.front 14 rfl rfl ?_
  refine J.front 14 rfl rfl ?_
  refine J.front 10 rfl rfl ?_
  refine J.front 11 rfl rfl ?_
  refine J.front 10 rfl rfl ?_
  refine J.nm ?_
  refine J.first 11 rfl ?_
  refine J.done_ret (res1 rfl rfl) ?_
  exact ⟨q, im, be, bc', le', lc', fv', wv', Hw', rfl, hbe, hl', hf', hw', rfl⟩
end Go.Proofs.YF
namespace Go.Proofs.YF
open Go YE
attribute [local irreducible] CW LW OW XW AW PW HW RW AK HK AP HP DX CI LI OI BW RE MW J Gives
set_option maxHeartbeats 1000000
set_option maxRecDepth 20000

theorem LivesAre0 (bst gb : Nat) (c : List Value) (st : Sto) (bc : Nat) (F : Hs) : LivesAre bst ([(bst, .cells st.cells 92 (0, 0))] :: [(gb, .cells c 3 (0, 0))] :: [(st.base, .map [] bc)] :: F) [] := by
  refine Sp.frame ([(gb, .cells c 3 (0, 0))] :: F) (Lives0 bst st bc) ?_ ?_
  · exact List.Perm.cons _ (List.Perm.swap _ _ _)
  · rintro v H' ⟨lb, le, lc, rfl, hm, rfl⟩
    exact ⟨_, ⟨lb, le, lc, rfl, hm, rfl⟩, List.Perm.cons _ (List.Perm.cons _ (List.Perm.swap _ _ _))⟩
theorem Ready (bst gb cap : Nat) (d N : Nat) (gen : Int) (lb : Nat) (num m0 m1 m2 m3 : Int) (base last : Nat) (vs vt vn vu vg : Value) (segs : List Int) (rest : List Value) (bc : Nat) (hn : segs.length ≤ 1000) (x : Slv) (fv : Value) (xs : List Int) (Hf : Heap) (hf : Ints fv xs Hf) (hxs : 2 ≤ xs.length ∧ xs.length ≤ 100000)
    (hen : 4 + segs.length / 8 ≤ (emptyL [] x.seg x.seg segs).length) :
    Sp Tryz.prog 62 #[ptr bst 0] [[(bst, .cells (Sto.cells ⟨d, N, gen, slc gb 0 segs.length cap, ptr lb 0, num, m0, m1, m2, m3, base, last, vs, vt, vn, vu, vg⟩) 92 (0, 0))], [(gb, .cells (ints segs ++ rest) 3 (0, 0))], [(base, .map [] bc)], [(lb, .cells (lcell d N gen x fv) 190 (0, 0))], Hf]
      (fun _ H => H = [[(bst, .cells (Sto.cells ⟨d, N, gen, slc gb 0 segs.length cap, ptr lb 0, num, m0, m1, m2, m3, base, last, vs, vt, vn, vu, vg⟩) 92 (0, 0))], [(gb, .cells (ints segs ++ rest) 3 (0, 0))], [(base, .map [] bc)], [(lb, .cells (lcell d N gen x fv) 190 (0, 0))], Hf]) := by
  refine Sp.intro Tryz.func62 rfl rfl rfl fun w K => ?_
  have hE := Empty bst gb cap d N gen (ptr lb 0) num m0 m1 m2 m3 base last vs vt vn vu vg segs rest [[(base, .map [] bc)]] hn [] (LivesAre0 bst gb _ ⟨d, N, gen, slc gb 0 segs.length cap, ptr lb 0, num, m0, m1, m2, m3, base, last, vs, vt, vn, vu, vg⟩ bc []) x.seg x.seg
  have hel : (emptyL [] x.seg x.seg segs).length ≤ 1000 := by
    have := List.length_filter_le (emptyB [] x.seg x.seg) segs
    unfold emptyL; omega
  generalize emptyL [] x.seg x.seg segs = es at *
  (try refine wk ?_); (repeat (intro b; (try refine wk ?_)))
  refine J.pick [0, 10, 11] rfl ?_
  refine J.loop (α := Unit) (fun _ => _) (fun _ => _) (fun _ => True) (fun _ => 0) () trivial (fun _ _ h => h) rfl (fun _ _ => ?_)
  (try refine wk ?_); (repeat (intro b; (try refine wk ?_)))
  refine J.front 3 rfl rfl ?_
  refine J.nm ?_
  (refine J.op rfl ?_; refine J.isCallF ?_; refine J.call (H1 := [_]) (PlaceOf lb d N gen x fv) rfl rfl rfl rfl ?_)
  rintro _ _ ⟨rfl, rfl⟩; refine J.pn ?_
  (try refine wk ?_); (repeat (intro b; (try refine wk ?_)))
  obtain ⟨b2, rfl⟩ : ∃ q, q = b := ⟨b, rfl⟩
  refine J.front 0 rfl rfl ?_
  refine J.front 5 rfl rfl ?_
  refine J.front 2 rfl rfl ?_
  refine J.front 5 rfl rfl ?_
  refine J.front 5 rfl rfl ?_
  refine J.front 5 rfl rfl ?_
  refine J.nm ?_
  refine J.any Tryz.mixed [[(b2, .cells x.cells 57 (0, 0))], [(bst, .cells (Sto.cells ⟨d, N, gen, slc gb 0 segs.length cap, ptr lb 0, num, m0, m1, m2, m3, base, last, vs, vt, vn, vu, vg⟩) 92 (0, 0))]] ?_
  refine J.tk 0 ?_
  refine J.tk 1 ?_
  refine J.tk 2 ?_
  refine J.tk 3 ?_
  refine J.tk 4 ?_
  refine J.tk 7 ?_
  refine J.tk 8 ?_
  refine J.tk 9 ?_
  refine J.tk 10 ?_
  refine J.tk 11 ?_
  refine J.tk 12 ?_
  refine J.tk 13 ?_
  refine J.on 5 ?_ -- call
  refine J.isCallF ?_; refine J.call (H1 := [_, _, _]) hE rfl rfl rfl rfl ?_
  rintro v Hq ⟨Hr, hs, rfl⟩; refine J.put rfl ?_; refine J.nm ?_
  obtain ⟨cp, p0, rfl⟩ : ∃ cp p0, v = .slice p0 es.length cp := by
    rcases hs with ⟨rfl, h1, _⟩ | ⟨sb, scap, srest, rfl, rfl, _⟩
    · rw [h1]; exact ⟨_, _, rfl⟩
    · exact ⟨_, _, rfl⟩
  refine J.drop 0 ?_
  refine J.nm ?_
  refine J.hd ?_
  refine J.tk 6 ?_
  refine J.tk 14 ?_
  refine J.tk 15 ?_
  refine J.al ?_
  refine J.slot 3 (.bool true) rfl (congrArg Value.bool (decide_eq_true (by omega))) ?_
  (try refine wk ?_); (repeat (intro b; (try refine wk ?_)))
  refine J.front 4 rfl rfl ?_
  refine J.front 4 rfl rfl ?_
  refine J.nm ?_
  have hF := YF.Free lb d N gen x fv xs Hf hf (by omega)
  (refine J.want rfl rfl rfl ?_; refine J.isCallF ?_; refine J.call (H1 := [_, _]) hF rfl rfl rfl rfl ?_)
  rintro v Hq ⟨nf, Hfr, hfr, rfl⟩; refine J.put rfl ?_; refine J.nm ?_
  have hnf : nf = xs.length := by
    have := hfr.len; simp at this; omega
  subst hnf
  obtain ⟨cp1, p1, rfl⟩ : ∃ cp p0, v = .slice p0 xs.length cp := by
    rcases hfr with ⟨rfl, h1, _⟩ | ⟨sb, scap, srest, rfl, rfl, _⟩
    · rw [h1]; exact ⟨_, _, rfl⟩
    · exact ⟨_, _, rfl⟩
  refine J.drop 0 ?_
  refine J.nm ?_
  (try refine wk ?_); (repeat (intro b; (try refine wk ?_)))
  · skip
    refine J.drop 5 ?_
    refine J.front 1 rfl rfl ?_
    refine J.front 1 rfl rfl ?_
    refine J.front 4 rfl rfl ?_
    refine J.front 4 rfl rfl ?_
    refine J.front 4 rfl rfl ?_
    refine J.nm ?_
    refine J.done_ret (fun a w _ _ => res0 rfl a.tmps w) ?_
    rfl
end Go.Proofs.YF
namespace Go.Proofs.YF
open Go YE
attribute [local irreducible] CW LW OW XW AW PW HW RW AK HK AP HP DX CI LI OI BW RE MW J Gives
set_option maxHeartbeats 1000000
set_option maxRecDepth 20000
set_option maxHeartbeats 4000000

theorem Clear (bst gb cap : Nat) (d N : Nat) (hN : 8 ≤ N ∧ N ≤ 500) (gen : Int) (lg : Value) (num m0 m1 m2 m3 : Int) (base last : Nat) (vs vt vn vu vg : Value) (segs : List Int) (rest : List Value) (hn : segs.length ≤ 1000) (hsg : ∀ s, s ∈ segs → 0 ≤ s ∧ s < N)
    (db S : Nat) (hS : S = 48 + 32 * N) (wv : Value) (wr : Int) (n : Nat) (ws : List (Int × Int × ByteArray)) (Hw : Heap) (D : List ByteArray) (hD : Secs S D) (hwo : Wok S ws) (hw : Sl 139 258 wv n (wcells ws) Hw) (hnn : n ≤ 100000) (hlo : ∀ x, x ∈ ws → x.2.1 < 48) (hz : ∀ i, 48 ≤ i → i < S → D[i]? = some (zeros 256)) :
    Sp Tryz.prog 77 #[ptr bst 0] [[(bst, .cells (Sto.cells ⟨d, N, gen, slc gb 0 segs.length cap, lg, num, m0, m1, m2, m3, base, last, vs, vt, vn, vu, vg⟩) 92 (0, 0))], [(gb, .cells (ints segs ++ rest) 3 (0, 0))], [(d, .cells (dcell nilRest db S wv wr) 114 (0, 0))], [(db, .cells (dcells D) 137 (0, 0))], Hw]
      (fun v H => v = .bool true ∧ H = [[(bst, .cells (Sto.cells ⟨d, N, gen, slc gb 0 segs.length cap, lg, num, m0, m1, m2, m3, base, last, vs, vt, vn, vu, vg⟩) 92 (0, 0))], [(gb, .cells (ints segs ++ rest) 3 (0, 0))], [(d, .cells (dcell nilRest db S wv wr) 114 (0, 0))], [(db, .cells (dcells D) 137 (0, 0))], Hw]) := by
  refine Sp.intro Tryz.func77 rfl rfl rfl fun w K => ?_
  (try refine wk ?_); (repeat (intro b; (try refine wk ?_)))
  refine J.pick [0, 15, 16, 17] rfl ?_
  refine J.loop (α := Nat) (fun k => [(0, ptr bst 0), (15, slc gb 0 segs.length cap), (16, i64 segs.length), (17, i64 k)]) (fun _ => _) (fun k => k ≤ segs.length) (fun k => segs.length - k) 0 (Nat.zero_le _) (fun _ _ h => h) rfl (fun k hk => ?_)
  by_cases hkn : k < segs.length
  · have hki : (k : Int) < segs.length := by omega
    have hkr : (0 : Int) ≤ k ∧ (k : Int) < segs.length := by omega
    have hlk : (ints segs ++ rest)[0 + (k : Int).toNat * 1]? = some (i64 segs[k]) := by
      have : 0 + (k : Int).toNat * 1 = k := by simp
      rw [this, List.getElem?_append_left (by simp [ints]; omega)]
      simp [hkn]
    have hsk : 0 ≤ segs[k] ∧ segs[k] < N := hsg _ (List.getElem_mem hkn)
    generalize segs[k] = s at *
    (try refine wk ?_); (repeat (intro b; (try refine wk ?_)))
    refine J.op rfl ?_; refine J.isLoad ?_; refine J.give (Gives.load1 1 rfl rfl rfl hlk) rfl rfl ?_
    (try refine wk ?_); (repeat (intro b; (try refine wk ?_)))
    refine J.pick [0, 4, 15, 16, 17, 25, 26] rfl ?_
    refine J.loop (α := Nat) (fun j => [(0, ptr bst 0), (4, i64 s), (15, slc gb 0 segs.length cap), (16, i64 segs.length), (17, i64 k), (25, i64 32), (26, i64 j)]) (fun _ => _) (fun j => j ≤ 32) (fun j => 32 - j) 0 (Nat.zero_le _) (fun _ _ h => h) rfl (fun j hj => ?_)
    by_cases hjn : j < 32
    · have hji : (j : Int) < 32 := by omega
      have hst : start N s = 48 + 32 * s := by unfold start; rw [if_pos hsk]; omega
      (try refine wk ?_); (repeat (intro b; (try refine wk ?_)))
      (refine J.op rfl ?_; refine J.isCallF ?_; refine J.call (Start N s (by omega) (by omega)) rfl rfl rfl rfl ?_; rintro _ _ ⟨rfl, rfl⟩; refine J.pn ?_)
      refine J.slot 34 (i64 (48 + 32 * s)) rfl (congrArg i64 hst) ?_
      (try refine wk ?_); (repeat (intro b; (try refine wk ?_)))
      obtain ⟨a, ha⟩ : ∃ a : Nat, 48 + 32 * s + (j : Int) = (a : Int) := ⟨(48 + 32 * s + j).toNat, by omega⟩
      refine J.slot 42 (i64 a) rfl (congrArg i64 ha) ?_
      refine J.front 4 rfl rfl ?_
      refine J.front 4 rfl rfl ?_
      refine J.front 4 rfl rfl ?_
      refine J.nm ?_
      (refine J.op rfl ?_; refine J.isCallF ?_; refine J.call (H1 := [_, _, _]) (YF.Read d db S wv wr a n ws Hw D hD (by omega) (by omega) hwo hw hnn (fun x hx => by have := hlo x hx; omega) (zeros 256) (hz a (by omega) (by omega))) rfl rfl rfl rfl ?_)
      rintro _ _ ⟨rfl, rfl⟩; refine J.pn ?_
      (try refine wk ?_); (repeat (intro b; (try refine wk ?_)))
      (refine J.op rfl ?_; refine J.isCallF ?_; refine J.call (HeadGet0) rfl rfl rfl rfl ?_; rintro _ _ ⟨rfl, rfl⟩; refine J.pn ?_)
      (try refine wk ?_); (repeat (intro b; (try refine wk ?_)))
      refine J.any Tryz.mixed [] ?_
      refine J.tk 0 ?_
      refine J.tk 1 ?_
      (first | refine J.tkW 2 ?_ | refine J.tkE 2 ?_ | refine J.tkN 2 ?_ | refine J.tkX 2 ?_ | refine J.tkU 2 ?_)
      (first | refine J.tkW 3 ?_ | (refine J.tkWO 3 ?_; first | refine J.giveT (Gives.move rfl rfl) rfl rfl ?_) | refine J.tkE 3 ?_ | (refine J.tkEO 3 ?_; first | refine J.giveT (Gives.move rfl rfl) rfl rfl ?_) | refine J.tkN 3 ?_ | refine J.tkX 3 ?_ | refine J.tkU 3 ?_)
      (first | refine J.tkW 4 ?_ | refine J.tkE 4 ?_ | refine J.tkN 4 ?_ | refine J.tkX 4 ?_ | refine J.tkU 4 ?_)
      (first | refine J.tkW 5 ?_ | refine J.tkE 5 ?_ | refine J.tkN 5 ?_ | refine J.tkX 5 ?_ | refine J.tkU 5 ?_)
      (first | refine J.tkW 6 ?_ | refine J.tkE 6 ?_ | refine J.tkN 6 ?_ | refine J.tkX 6 ?_ | refine J.tkU 6 ?_)
      (first | refine J.tkW 7 ?_ | (refine J.tkWO 7 ?_; first | refine J.giveT (Gives.move rfl rfl) rfl rfl ?_) | refine J.tkE 7 ?_ | (refine J.tkEO 7 ?_; first | refine J.giveT (Gives.move rfl rfl) rfl rfl ?_) | refine J.tkN 7 ?_ | refine J.tkX 7 ?_ | refine J.tkU 7 ?_)
      (first | refine J.tkW 8 ?_ | (refine J.tkWO 8 ?_; first | refine J.giveT (Gives.move rfl rfl) rfl rfl ?_) | refine J.tkE 8 ?_ | (refine J.tkEO 8 ?_; first | refine J.giveT (Gives.move rfl rfl) rfl rfl ?_) | refine J.tkN 8 ?_ | refine J.tkX 8 ?_ | refine J.tkU 8 ?_)
      refine J.tk 9 ?_
      refine J.tk 10 ?_
      (first | refine J.tkW 11 ?_ | refine J.tkE 11 ?_ | refine J.tkN 11 ?_ | refine J.tkX 11 ?_ | refine J.tkU 11 ?_)
      (first | refine J.tkW 12 ?_ | (refine J.tkWO 12 ?_; first | refine J.giveT (Gives.move rfl rfl) rfl rfl ?_) | refine J.tkE 12 ?_ | (refine J.tkEO 12 ?_; first | refine J.giveT (Gives.move rfl rfl) rfl rfl ?_) | refine J.tkN 12 ?_ | refine J.tkX 12 ?_ | refine J.tkU 12 ?_)
      (first | refine J.tkW 13 ?_ | refine J.tkE 13 ?_ | refine J.tkN 13 ?_ | refine J.tkX 13 ?_ | refine J.tkU 13 ?_)
      (first | refine J.tkW 14 ?_ | refine J.tkE 14 ?_ | refine J.tkN 14 ?_ | refine J.tkX 14 ?_ | refine J.tkU 14 ?_)
      (first | refine J.tkW 15 ?_ | refine J.tkE 15 ?_ | refine J.tkN 15 ?_ | refine J.tkX 15 ?_ | refine J.tkU 15 ?_)
      (first | refine J.tkW 16 ?_ | (refine J.tkWO 16 ?_; first | refine J.giveT (Gives.move rfl rfl) rfl rfl ?_) | refine J.tkE 16 ?_ | (refine J.tkEO 16 ?_; first | refine J.giveT (Gives.move rfl rfl) rfl rfl ?_) | refine J.tkN 16 ?_ | refine J.tkX 16 ?_ | refine J.tkU 16 ?_)
      (first | refine J.tkW 17 ?_ | (refine J.tkWO 17 ?_; first | refine J.giveT (Gives.move rfl rfl) rfl rfl ?_) | refine J.tkE 17 ?_ | (refine J.tkEO 17 ?_; first | refine J.giveT (Gives.move rfl rfl) rfl rfl ?_) | refine J.tkN 17 ?_ | refine J.tkX 17 ?_ | refine J.tkU 17 ?_)
      refine J.tk 18 ?_
      refine J.tk 19 ?_
      (first | refine J.tkW 20 ?_ | refine J.tkE 20 ?_ | refine J.tkN 20 ?_ | refine J.tkX 20 ?_ | refine J.tkU 20 ?_)
      (first | refine J.tkW 21 ?_ | refine J.tkE 21 ?_ | refine J.tkN 21 ?_ | refine J.tkX 21 ?_ | refine J.tkU 21 ?_)
      (first | refine J.tkW 22 ?_ | refine J.tkE 22 ?_ | refine J.tkN 22 ?_ | refine J.tkX 22 ?_ | refine J.tkU 22 ?_)
      (first | refine J.tkW 23 ?_ | (refine J.tkWO 23 ?_; first | refine J.giveT (Gives.move rfl rfl) rfl rfl ?_) | refine J.tkE 23 ?_ | (refine J.tkEO 23 ?_; first | refine J.giveT (Gives.move rfl rfl) rfl rfl ?_) | refine J.tkN 23 ?_ | refine J.tkX 23 ?_ | refine J.tkU 23 ?_)
      (first | refine J.tkW 24 ?_ | refine J.tkE 24 ?_ | refine J.tkN 24 ?_ | refine J.tkX 24 ?_ | refine J.tkU 24 ?_)
      (first | refine J.tkW 25 ?_ | refine J.tkE 25 ?_ | refine J.tkN 25 ?_ | refine J.tkX 25 ?_ | refine J.tkU 25 ?_)
      (first | refine J.tkW 26 ?_ | refine J.tkE 26 ?_ | refine J.tkN 26 ?_ | refine J.tkX 26 ?_ | refine J.tkU 26 ?_)
      (first | refine J.tkW 27 ?_ | (refine J.tkWO 27 ?_; first | refine J.giveT (Gives.move rfl rfl) rfl rfl ?_) | refine J.tkE 27 ?_ | (refine J.tkEO 27 ?_; first | refine J.giveT (Gives.move rfl rfl) rfl rfl ?_) | refine J.tkN 27 ?_ | refine J.tkX 27 ?_ | refine J.tkU 27 ?_)
      (first | refine J.tkW 28 ?_ | refine J.tkE 28 ?_ | refine J.tkN 28 ?_ | refine J.tkX 28 ?_ | refine J.tkU 28 ?_)
      (first | refine J.tkN 29 ?_ | refine J.tkX 29 ?_ | refine J.tkU 29 ?_)
      (first | refine J.tkN 30 ?_ | refine J.tkX 30 ?_ | refine J.tkU 30 ?_)
      (first | refine J.tkW 31 ?_ | refine J.tkE 31 ?_ | refine J.tkN 31 ?_ | refine J.tkX 31 ?_ | refine J.tkU 31 ?_)
      refine J.tk 32 ?_
      refine J.al ?_
      (try refine wk ?_); (repeat (intro b; (try refine wk ?_)))
      refine J.drop 0 ?_
      refine J.front 2 rfl rfl ?_
      refine J.front 2 rfl rfl ?_
      refine J.front 2 rfl rfl ?_
      refine J.front 4 rfl rfl ?_
      refine J.front 4 rfl rfl ?_
      refine J.nm ?_
      refine J.slot 26 (i64 ((j + 1 : Nat) : Int)) rfl (congrArg i64 (by omega)) ?_
      refine J.pick [0, 4, 15, 16, 17, 25, 26] rfl ?_
      exact J.round (j + 1) (by show j + 1 ≤ 32; omega) (by show 32 - (j + 1) < 32 - j; omega) (fun _ _ h => h) rfl
    · obtain rfl : 32 = j := by omega
      (try refine wk ?_); (repeat (intro b; (try refine wk ?_)))
      refine J.slot 17 (i64 ((k + 1 : Nat) : Int)) rfl (congrArg i64 (by omega)) ?_
      refine J.pick [0, 15, 16, 17] rfl ?_
      exact J.round (k + 1) hkn (by show segs.length - (k + 1) < segs.length - k; omega) (fun _ _ h => h) rfl
  · obtain rfl : segs.length = k := by omega
    (try refine wk ?_); (repeat (intro b; (try refine wk ?_)))
    refine J.done_ret (res1 rfl rfl) ?_
    exact ⟨rfl, rfl⟩
end Go.Proofs.YF
namespace Go.Proofs.YF
open Go YE
attribute [local irreducible] CW LW OW XW AW PW HW RW AK HK AP HP DX CI LI OI BW RE MW J Gives
set_option maxHeartbeats 1000000
set_option maxRecDepth 20000
attribute [local irreducible] AD WD
set_option maxHeartbeats 4000000

theorem InRange (a b : Int) : Sp Tryz.prog 58 #[i64 a, i64 b] [] (Is (.bool (decide (0 ≤ a) && decide (a ≤ b)))) := by
  refine Sp.intro Tryz.func58 rfl rfl rfl fun w K => ?_
  by_cases h1 : 0 ≤ a
  · (try refine wk ?_); (repeat (intro b; (try refine wk ?_)))
    refine J.slot 4 (.bool (decide (0 ≤ a) && decide (a ≤ b))) rfl (by rw [decide_eq_true h1, Bool.true_and]) ?_
    refine J.clear ?_; refine J.done_ret (res1 rfl rfl) ?_; refine ⟨?_, rfl⟩
    rfl
  · (try refine wk ?_); (repeat (intro b; (try refine wk ?_)))
    refine J.slot 4 (.bool (decide (0 ≤ a) && decide (a ≤ b))) rfl (by rw [decide_eq_false h1, Bool.false_and]) ?_
    refine J.clear ?_; refine J.done_ret (res1 rfl rfl) ?_; refine ⟨?_, rfl⟩
    rfl

theorem one_now (bst sb tb nb ub gb : Nat) (sc tc nc uc gc bc : Nat) (ne ue : List MapEntry) (st : Sto) (hvn : st.vn = .map (some nb)) (x : Nd) (hnm : MapOK ki Nd.v [(1, x.bare)] ne nc) :
    OneNode bst (setH bst sb tb nb ub gb sc tc nc uc gc bc ne ue st) := by
  intro n h1 h2
  by_cases hn : n = 1
  · subst hn
    refine ⟨x, ?_⟩
    refine Sp.frame ([[(sb, .map [] sc)], [(tb, .map [] tc)], [(ub, .map ue uc)], [(gb, .map [] gc)], [(st.base, .map [] bc)]]) (NodeNow bst nb st hvn 1 x [(1, x.bare)] ne nc hnm rfl) ?_ ?_
    · skip
      exact perm_at (n := 7) [0, 3, 1, 2, 4, 5, 6] rfl rfl (by decide)
    · rintro v H' ⟨rfl, rfl⟩
      refine ⟨_, ⟨by rw [decide_eq_true rfl]; rfl, rfl⟩, ?_⟩
      exact perm_at (n := 7) [0, 3, 1, 2, 4, 5, 6] rfl rfl (by decide)
  · refine ⟨nd0, ?_⟩
    refine Sp.frame ([[(sb, .map [] sc)], [(tb, .map [] tc)], [(ub, .map ue uc)], [(gb, .map [] gc)]]) (NodeNone bst nb st hvn n [(1, x.bare)] ne nc hnm (by unfold aget; simp [Ne.symm hn]) [] [] bc (nil_ok bc) rfl) ?_ ?_
    · skip
      exact perm_at (n := 7) [0, 3, 6, 1, 2, 4, 5] rfl rfl (by decide)
    · rintro v H' ⟨rfl, rfl⟩
      refine ⟨_, ⟨by rw [decide_eq_false hn]; rfl, rfl⟩, ?_⟩
      exact perm_at (n := 7) [0, 3, 6, 1, 2, 4, 5] rfl rfl (by decide)
abbrev stOf (d : Nat) (N gen : Int) (sg n cap lb : Nat) (num m0 m1 m2 m3 : Int) (base last s t nb u g : Nat) : Sto := ⟨d, N, gen, slc sg 0 n cap, ptr lb 0, num, m0, m1, m2, m3, base, last, .map (some s), .map (some t), .map (some nb), .map (some u), .map (some g)⟩
theorem Commit (bst sb tb nb ub vgb : Nat) (sc tc nc uc gc bc : Nat) (ne ue : List MapEntry) (y : Nd) (hnm : MapOK ki Nd.v [(1, y.bare)] ne nc) (hum : MapOK ki Value.bool [(1, true)] ue uc)
    (sg cap : Nat) (d N : Nat) (hN : 8 ≤ N ∧ N ≤ 500) (gen : Int) (lb : Nat) (num m0 m1 m2 m3 : Int) (base last : Nat) (segs : List Int) (rest : List Value) (hn : 8 ≤ segs.length ∧ segs.length ≤ 500) (ll : List (Int × Int)) (le : List MapEntry) (lc : Nat) (hlm : MapOK ki ki ll le lc)
    (x : Slv) (fv : Value) (xs : List Int) (Hf : Heap) (hf : Ints fv xs Hf) (hxs : 2 ≤ xs.length ∧ xs.length ≤ 100000) (hx : 0 ≤ x.pos ∧ x.pos + 2 ≤ 32) (hseg : 0 ≤ x.seg ∧ x.seg < N) (hseq : x.seq ≤ 100000000)
    (hen : 4 + segs.length / 8 ≤ (emptyL [] x.seg x.seg segs).length)
    (t : Rest) (db S : Nat) (hS : S = 48 + 32 * N) (wv : Value) (wr : Int) (n : Nat) (ws : List (Int × Int × ByteArray)) (Hw : Heap) (D : List ByteArray) (hD : Secs S D) (hwo : Wok S ws) (hw : Sl 139 258 wv n (wcells ws) Hw) (hnn : n ≤ 100000) (hwr : 0 ≤ wr ∧ wr ≤ 100000000)
    (hy : y.bare.okB = true) (hy1 : y.num = 1) (hok : (hd0.at gen x).Ok) :
    Sp Tryz.prog 19 #[ptr bst 0, i64 0, i64 0, i64 0] (setH bst sb tb nb ub vgb sc tc nc uc gc bc ne ue (stOf d N gen sg segs.length cap lb num m0 m1 m2 m3 base last sb tb nb ub vgb) ++
      [[(sg, .cells (ints segs ++ rest) 3 (0, 0))], [(last, .map le lc)], [(lb, .cells (lcell d N gen x fv) 190 (0, 0))], Hf, [(d, .cells (dcell t db S wv wr) 114 (0, 0))], [(db, .cells (dcells D) 137 (0, 0))], Hw])
      (fun v H => ∃ s1 t1 n1 u1 g1 q am im be bc' le' lc' fv' wv' Hw', v = .bool true ∧ MapOK ki kp [(1, q)] be bc' ∧ MapOK ki ki (aset ll x.seg x.seq) le' lc' ∧ Ints fv' xs Hf ∧
        Sl 139 258 wv' 1 (wcells [(wr + 1, 48 + 32 * x.seg + x.pos, headBlock (hd0.at gen x) [⟨3, 1, 0⟩] (joinT [nodeBlock y.bare]))]) Hw' ∧
        H = [[(bst, .cells (stOf d N gen sg segs.length cap lb num m0 m1 m2 m3 base last s1 t1 n1 u1 g1).cells 92 (0, 0))]] ++ nows s1 t1 n1 u1 g1 ++
          [[(sg, .cells (ints segs ++ rest) 3 (0, 0))], [(base, .map be bc')], [(last, .map le' lc')], [(lb, .cells (lcell d N gen (x.behind hd0 2) fv') 190 (0, 0))], Hf, [(d, .cells (dcell t db S wv' (wr + 2)) 114 (0, 0))], [(db, .cells (dcells (flush D (ws ++ pwt (48 + 32 * x.seg + x.pos) wr [nodeBlock y.bare]))) 137 (0, 0))], Hw', [(q, .cells (stcells y (48 + 32 * x.seg + x.pos + 1) am im) 108 (0, 0))], [(am, .map [] 0)], [(im, .map [] 0)]]) := by
  refine Sp.introD Tryz.func19 rfl rfl rfl fun w K => ?_
  obtain ⟨st, hst⟩ : ∃ st : Sto, st = stOf d N gen sg segs.length cap lb num m0 m1 m2 m3 base last sb tb nb ub vgb := ⟨_, rfl⟩
  have hone := one_now bst sb tb nb ub vgb sc tc nc uc gc bc ne ue (stOf d N gen sg segs.length cap lb num m0 m1 m2 m3 base last sb tb nb ub vgb) rfl y hnm
  have hhas : Sp Tryz.prog 35 #[ptr bst 0, i64 1] (setH bst sb tb nb ub vgb sc tc nc uc gc bc ne ue (stOf d N gen sg segs.length cap lb num m0 m1 m2 m3 base last sb tb nb ub vgb)) (fun v H => v = nils ∧ H = setH bst sb tb nb ub vgb sc tc nc uc gc bc ne ue (stOf d N gen sg segs.length cap lb num m0 m1 m2 m3 base last sb tb nb ub vgb)) := by
    refine Sp.frame ([[(tb, .map [] tc)], [(nb, .map ne nc)], [(ub, .map ue uc)], [(vgb, .map [] gc)]]) (Has0 bst sb sc (stOf d N gen sg segs.length cap lb num m0 m1 m2 m3 base last sb tb nb ub vgb) rfl 1 [] [] bc (nil_ok bc) rfl) ?_ ?_
    · skip
      exact perm_at (n := 7) [0, 1, 6, 2, 3, 4, 5] rfl rfl (by decide)
    · rintro v H' ⟨rfl, rfl⟩
      refine ⟨_, ⟨rfl, rfl⟩, ?_⟩
      exact perm_at (n := 7) [0, 1, 6, 2, 3, 4, 5] rfl rfl (by decide)
  (try refine wk ?_); (repeat (intro b; (try refine wk ?_)))
  refine J.deferF (resolveFn (args := [ptr bst 0]) rfl) rfl rfl ?_
  (try refine wkD ?_); (repeat (intro b; (try refine wkD ?_)))
  refine J.opD rfl ?_; refine J.isBuild ?_; refine J.give (Gives.build (vs := [(5, i64 0), (6, i64 0), (7, i64 0)]) (cells := (hd0.cells nils).toArray) rfl rfl (by kernel_rfl)) rfl rfl ?_
  (try refine wkD ?_); (repeat (intro b; (try refine wkD ?_)))
  obtain ⟨b9, rfl⟩ : ∃ q, q = b := ⟨b, rfl⟩
  refine J.norm (H' := [[(b9, .cells (hd0.cells nils) 95 (0, 0))]] ++ setH bst sb tb nb ub vgb sc tc nc uc gc bc ne ue (stOf d N gen sg segs.length cap lb num m0 m1 m2 m3 base last sb tb nb ub vgb) ++
      [[(sg, .cells (ints segs ++ rest) 3 (0, 0))], [(last, .map le lc)], [(lb, .cells (lcell d N gen x fv) 190 (0, 0))], Hf, [(d, .cells (dcell t db S wv wr) 114 (0, 0))], [(db, .cells (dcells D) 137 (0, 0))], Hw]) rfl ?_
  refine J.nm ?_
  refine J.front 12 rfl rfl ?_
  refine J.nm ?_
  (refine J.opD rfl ?_; refine J.isCallF ?_; refine J.call (H1 := [_]) (Down d t db S wv wr) rfl rfl rfl rfl ?_)
  rintro _ _ ⟨rfl, rfl⟩; refine J.pn ?_
  (try refine wkD ?_); (repeat (intro b; (try refine wkD ?_)))
  refine J.front 8 rfl rfl ?_
  refine J.front 8 rfl rfl ?_
  refine J.front 8 rfl rfl ?_
  refine J.front 8 rfl rfl ?_
  refine J.front 8 rfl rfl ?_
  refine J.front 8 rfl rfl ?_
  refine J.front 8 rfl rfl ?_
  refine J.nm ?_
  (refine J.wantD rfl rfl rfl ?_; refine J.isCallF ?_; refine J.call (H1 := [_, _, _, _, _, _, _]) (Plan bst sb tb nb ub vgb sc tc nc uc gc bc ne ue d N gen (slc sg 0 segs.length cap) (ptr lb 0) num m0 m1 m2 m3 base last y hnm hum) rfl rfl rfl rfl ?_)
  rintro _ _ ⟨pb, da, inn, no, af, fr, noc, ac, fc, noe, ae, fe, am, rfl, hpn, hpa, hpf, rfl⟩; refine J.put rfl ?_; refine J.nm ?_
  obtain ⟨e0, rfl, hek, hev⟩ := one_entry hpn
  (try refine wkD ?_); (repeat (intro b; (try refine wkD ?_)))
  (refine J.wantD rfl rfl rfl ?_; refine J.isCallF ?_; refine J.call (H1 := [_, _, _, _]) (Size pb da inn no none 0 0 af fr [] [] [e0] 0 0 noc (by simp) (by simp) (by simp) (by omega)) rfl rfl rfl rfl ?_)
  rintro _ _ ⟨rfl, rfl⟩; refine J.pn ?_
  refine J.slot 24 (i64 1) rfl rfl ?_
  refine J.drop 0 ?_
  refine J.drop 0 ?_
  refine J.drop 0 ?_
  refine J.drop 0 ?_
  refine J.drop 0 ?_
  refine J.drop 0 ?_
  refine J.drop 0 ?_
  refine J.nm ?_
  (try refine wkD ?_); (repeat (intro b; (try refine wkD ?_)))
  refine J.slot 27 (.bool false) rfl rfl ?_
  (try refine wkD ?_); (repeat (intro b; (try refine wkD ?_)))
  (refine J.wantD rfl rfl rfl ?_; refine J.isCallV ?_; refine J.callV (InRange _ _) rfl rfl rfl rfl rfl rfl ?_; rintro _ _ ⟨rfl, rfl⟩; refine J.put rfl ?_; refine J.nm ?_)
  refine J.slot 30 (.bool true) rfl rfl ?_
  (try refine wkD ?_); (repeat (intro b; (try refine wkD ?_)))
  (refine J.wantD rfl rfl rfl ?_; refine J.isCallV ?_; refine J.callV (InRange _ _) rfl rfl rfl rfl rfl rfl ?_; rintro _ _ ⟨rfl, rfl⟩; refine J.put rfl ?_; refine J.nm ?_)
  refine J.slot 36 (.bool true) rfl rfl ?_
  (try refine wkD ?_); (repeat (intro b; (try refine wkD ?_)))
  (refine J.wantD rfl rfl rfl ?_; refine J.isCallV ?_; refine J.callV (InRange _ _) rfl rfl rfl rfl rfl rfl ?_; rintro _ _ ⟨rfl, rfl⟩; refine J.put rfl ?_; refine J.nm ?_)
  refine J.slot 42 (.bool true) rfl rfl ?_
  (try refine wkD ?_); (repeat (intro b; (try refine wkD ?_)))
  (refine J.wantD rfl rfl rfl ?_; refine J.isCallF ?_; refine J.call (H1 := [_, _, _, _, _, _, _]) (Live bst _ hone hhas) rfl rfl rfl rfl ?_)
  rintro _ _ ⟨rfl, rfl⟩; refine J.pn ?_
  (try refine wkD ?_); (repeat (intro b; (try refine wkD ?_)))
  (refine J.wantD rfl rfl rfl ?_; refine J.isCallF ?_; refine J.call (H1 := [_]) (RoomOfS bst (stOf d N gen sg segs.length cap lb num m0 m1 m2 m3 base last sb tb nb ub vgb) _ segs.length cap rfl (by show 8 ≤ (N : Int) ∧ (N : Int) ≤ 500; omega) (by omega)) rfl rfl rfl rfl ?_)
  rintro _ _ ⟨rfl, rfl⟩; refine J.pn ?_
  (try refine wkD ?_); (repeat (intro b; (try refine wkD ?_)))
  refine J.slot 51 (.bool false) rfl (congrArg Value.bool (decide_eq_false (by omega))) ?_
  (try refine wkD ?_); (repeat (intro b; (try refine wkD ?_)))
  refine J.front 12 rfl rfl ?_
  refine J.front 12 rfl rfl ?_
  refine J.front 8 rfl rfl ?_
  refine J.front 11 rfl rfl ?_
  refine J.front 4 rfl rfl ?_
  refine J.nm ?_
  (refine J.opD rfl ?_; refine J.isCallF ?_; refine J.call (H1 := [_, _, _, _, _]) (Ready bst sg cap d N gen lb num m0 m1 m2 m3 base last (.map (some sb)) (.map (some tb)) (.map (some nb)) (.map (some ub)) (.map (some vgb)) segs rest bc (by omega) x fv xs Hf hf hxs hen) rfl rfl rfl rfl ?_)
  rintro _ _ rfl; refine J.put rfl ?_; refine J.nm ?_
  refine J.front 11 rfl rfl ?_
  refine J.front 3 rfl rfl ?_
  refine J.front 10 rfl rfl ?_
  refine J.front 10 rfl rfl ?_
  refine J.front 10 rfl rfl ?_
  refine J.front 10 rfl rfl ?_
  refine J.front 10 rfl rfl ?_
  refine J.front 7 rfl rfl ?_
  refine J.nm ?_
  (try refine wkD ?_); (repeat (intro b; (try refine wkD ?_)))
  have hW : ∀ (pb da inn no af fr am noc ac fc : Nat) (noe ae fe : List MapEntry), MapOK ki Nd.v [(1, y.bare)] noe noc → MapOK ki km [(1, am)] ae ac → MapOK ki Value.bool [(1, false)] fe fc →
      Sp Tryz.prog 63 #[ptr bst 0, ptr pb 0, hd0.v nils] [[(pb, .cells (pcells da inn no nils af fr) 159 (0, 0))], [(da, .map [] 0)], [(inn, .map [] 0)], [(no, .map noe noc)], [(af, .map ae ac)], [(fr, .map fe fc)], [(am, .map [] 0)],
        [(bst, .cells (stOf d N gen sg segs.length cap lb num m0 m1 m2 m3 base last sb tb nb ub vgb).cells 92 (0, 0))], [(sb, .map [] sc)], [(tb, .map [] tc)], [(nb, .map ne nc)], [(ub, .map ue uc)], [(vgb, .map [] gc)], [(base, .map [] bc)], [(b9, .cells (hd0.cells nils) 95 (0, 0))],
        [(sg, .cells (ints segs ++ rest) 3 (0, 0))], [(lb, .cells (lcell d N gen x fv) 190 (0, 0))], Hf, [(d, .cells (dcell t db S wv wr) 114 (0, 0))], [(last, .map le lc)], [(db, .cells (dcells D) 137 (0, 0))], Hw]
      (fun v H => ∃ q im be bc' le' lc' fv' wv' Hw', v = .bool true ∧ MapOK ki kp [(1, q)] be bc' ∧ MapOK ki ki (aset ll x.seg x.seq) le' lc' ∧ Ints fv' xs Hf ∧
        Sl 139 258 wv' 1 (wcells [(wr + 1, 48 + 32 * x.seg + x.pos, headBlock (hd0.at gen x) [⟨3, 1, 0⟩] (joinT [nodeBlock y.bare]))]) Hw' ∧
        H = [[(bst, .cells (stOf d N gen sg segs.length cap lb num m0 m1 m2 m3 base last sb tb nb ub vgb).cells 92 (0, 0))], [(sg, .cells (ints segs ++ rest) 3 (0, 0))], [(base, .map be bc')], [(last, .map le' lc')], [(lb, .cells (lcell d N gen (x.behind hd0 2) fv') 190 (0, 0))], Hf, [(d, .cells (dcell t db S wv' (wr + 2)) 114 (0, 0))], [(db, .cells (dcells (flush D (ws ++ pwt (48 + 32 * x.seg + x.pos) wr [nodeBlock y.bare]))) 137 (0, 0))], Hw', [(q, .cells (stcells y (48 + 32 * x.seg + x.pos + 1) am im) 108 (0, 0))], [(am, .map [] 0)], [(im, .map [] 0)]]) := by
    intro pb da inn no af fr am noc ac fc noe ae fe hpn hpa hpf
    refine Sp.frameG ([[(sg, .cells (ints segs ++ rest) 3 (0, 0))], [(sb, .map [] sc)], [(tb, .map [] tc)], [(nb, .map ne nc)], [(ub, .map ue uc)], [(vgb, .map [] gc)], [(b9, .cells (hd0.cells nils) 95 (0, 0))]])
      (WriteS bst lb d N hN gen (slc sg 0 segs.length cap) num m0 m1 m2 m3 base last (.map (some sb)) (.map (some tb)) (.map (some nb)) (.map (some ub)) (.map (some vgb)) bc ll le lc hlm x fv xs Hf hf (by omega) hx hseg hseq t db S hS wv wr n ws Hw D hD hwo hw hnn hwr pb da inn no af fr noc ac fc noe ae fe am y hpn hpa hpf hy hy1 hd0 hok) ?_ ?_
    · skip
      exact perm_at (n := 22) [7, 13, 19, 16, 17, 18, 20, 21, 0, 1, 2, 3, 4, 5, 6, 15, 8, 9, 10, 11, 12, 14] rfl rfl (by decide)
    · rintro v H' ⟨q, im, be, bc', le', lc', fv', wv', Hw', rfl, hbe, hl', hf', hw', rfl⟩
      refine ⟨_, [[(sb, .map [] sc)], [(tb, .map [] tc)], [(nb, .map ne nc)], [(ub, .map ue uc)], [(vgb, .map [] gc)], [(b9, .cells (hd0.cells nils) 95 (0, 0))]], ⟨q, im, be, bc', le', lc', fv', wv', Hw', rfl, hbe, hl', hf', hw', rfl⟩, ?_⟩
      exact perm_at (n := 18) [0, 2, 3, 4, 5, 6, 7, 8, 9, 10, 11, 1, 12, 13, 14, 15, 16, 17] rfl rfl (by decide)
  refine J.anyD Tryz.mixed ?_
  refine J.eachD [0, 1, 3] (by kernel_rfl) (by simp) (fun i hi => ?_)
  simp only [List.mem_cons, List.not_mem_nil, or_false] at hi
  rcases hi with rfl | rfl | rfl
  · skip
    refine J.wpOpD rfl rfl ?_
    (refine wo ?_; (try intro b))
    refine J.eachD [1, 3] (by kernel_rfl) (by simp) (fun i hi => ?_)
    simp only [List.mem_cons, List.not_mem_nil, or_false] at hi
    rcases hi with rfl | rfl
    · skip
      refine J.wpOpD rfl rfl ?_
      (refine wo ?_; (try intro b))
      refine J.eachD [2, 3] (by kernel_rfl) (by simp) (fun i hi => ?_)
      simp only [List.mem_cons, List.not_mem_nil, or_false] at hi
      rcases hi with rfl | rfl
      · skip
        refine J.wpOpD rfl rfl ?_
        (refine J.isCallF ?_; refine J.call (H1 := [_, _, _, _, _, _, _]) (Plan bst sb tb nb ub vgb sc tc nc uc gc bc ne ue d N gen (slc sg 0 segs.length cap) (ptr lb 0) num m0 m1 m2 m3 base last y hnm hum) rfl rfl rfl rfl ?_)
        rintro _ _ ⟨pb, da, inn, no, af, fr, noc, ac, fc, noe, ae, fe, am, rfl, hpn, hpa, hpf, rfl⟩; refine J.put rfl ?_; refine J.nm ?_
        refine J.eachD [3] (by kernel_rfl) (by simp) (fun i hi => ?_)
        simp only [List.mem_cons, List.not_mem_nil, or_false] at hi
        subst hi
        refine J.wpOpD rfl rfl ?_
        (refine J.isLoad ?_; first | refine J.give (Gives.loadA 7 rfl rfl rfl rfl nrm) rfl rfl ?_ | refine J.give (Gives.loadA 14 rfl rfl rfl rfl nrm) rfl rfl ?_)
        refine J.eachD [4] (by kernel_rfl) (by simp) (fun i hi => ?_)
        simp only [List.mem_cons, List.not_mem_nil, or_false] at hi
        subst hi
        refine J.wpOpD rfl rfl ?_
        (refine J.isCallF ?_; refine J.call (H1 := [_, _, _, _, _, _, _, _, _, _, _, _, _, _, _, _, _, _, _, _, _, _]) (hW pb da inn no af fr am noc ac fc noe ae fe hpn hpa hpf) rfl rfl rfl rfl ?_)
        rintro _ _ ⟨q, im, be, bc', le', lc', fv', wv', Hw', rfl, hbe, hl', hf', hw', rfl⟩; refine J.put rfl ?_; refine J.nm ?_
        refine J.eachD [5] (by kernel_rfl) (by simp) (fun i hi => ?_)
        simp only [List.mem_cons, List.not_mem_nil, or_false] at hi
        subst hi
        refine J.wpOpD rfl rfl ?_
        (refine wo ?_; (try intro b))
        refine J.allD (by kernel_rfl) ?_
        (try refine wkD ?_); (repeat (intro b; (try refine wkD ?_)))
        refine J.doneD (H1 := [_]) (.inl rfl) (AbortD bst _) rfl rfl rfl (res1d rfl rfl) ?_
        rintro _ _ ⟨s1, t1, n1, u1, g1, rfl⟩
        exact ⟨s1, t1, n1, u1, g1, q, am, im, be, bc', le', lc', fv', wv', Hw', rfl, hbe, hl', hf', hw', rfl⟩
      · skip
        refine J.wpOpD rfl rfl ?_
        (refine J.isLoad ?_; first | refine J.give (Gives.loadA 7 rfl rfl rfl rfl nrm) rfl rfl ?_ | refine J.give (Gives.loadA 14 rfl rfl rfl rfl nrm) rfl rfl ?_)
        refine J.eachD [2] (by kernel_rfl) (by simp) (fun i hi => ?_)
        simp only [List.mem_cons, List.not_mem_nil, or_false] at hi
        subst hi
        refine J.wpOpD rfl rfl ?_
        (refine J.isCallF ?_; refine J.call (H1 := [_, _, _, _, _, _, _]) (Plan bst sb tb nb ub vgb sc tc nc uc gc bc ne ue d N gen (slc sg 0 segs.length cap) (ptr lb 0) num m0 m1 m2 m3 base last y hnm hum) rfl rfl rfl rfl ?_)
        rintro _ _ ⟨pb, da, inn, no, af, fr, noc, ac, fc, noe, ae, fe, am, rfl, hpn, hpa, hpf, rfl⟩; refine J.put rfl ?_; refine J.nm ?_
        refine J.eachD [4] (by kernel_rfl) (by simp) (fun i hi => ?_)
        simp only [List.mem_cons, List.not_mem_nil, or_false] at hi
        subst hi
        refine J.wpOpD rfl rfl ?_
        (refine J.isCallF ?_; refine J.call (H1 := [_, _, _, _, _, _, _, _, _, _, _, _, _, _, _, _, _, _, _, _, _, _]) (hW pb da inn no af fr am noc ac fc noe ae fe hpn hpa hpf) rfl rfl rfl rfl ?_)
        rintro _ _ ⟨q, im, be, bc', le', lc', fv', wv', Hw', rfl, hbe, hl', hf', hw', rfl⟩; refine J.put rfl ?_; refine J.nm ?_
        refine J.eachD [5] (by kernel_rfl) (by simp) (fun i hi => ?_)
        simp only [List.mem_cons, List.not_mem_nil, or_false] at hi
        subst hi
        refine J.wpOpD rfl rfl ?_
        (refine wo ?_; (try intro b))
        refine J.allD (by kernel_rfl) ?_
        (try refine wkD ?_); (repeat (intro b; (try refine wkD ?_)))
        refine J.doneD (H1 := [_]) (.inl rfl) (AbortD bst _) rfl rfl rfl (res1d rfl rfl) ?_
        rintro _ _ ⟨s1, t1, n1, u1, g1, rfl⟩
        exact ⟨s1, t1, n1, u1, g1, q, am, im, be, bc', le', lc', fv', wv', Hw', rfl, hbe, hl', hf', hw', rfl⟩
    · skip
      refine J.wpOpD rfl rfl ?_
      (refine J.isLoad ?_; first | refine J.give (Gives.loadA 7 rfl rfl rfl rfl nrm) rfl rfl ?_ | refine J.give (Gives.loadA 14 rfl rfl rfl rfl nrm) rfl rfl ?_)
      refine J.eachD [1] (by kernel_rfl) (by simp) (fun i hi => ?_)
      simp only [List.mem_cons, List.not_mem_nil, or_false] at hi
      subst hi
      refine J.wpOpD rfl rfl ?_
      (refine wo ?_; (try intro b))
      refine J.eachD [2] (by kernel_rfl) (by simp) (fun i hi => ?_)
      simp only [List.mem_cons, List.not_mem_nil, or_false] at hi
      subst hi
      refine J.wpOpD rfl rfl ?_
      (refine J.isCallF ?_; refine J.call (H1 := [_, _, _, _, _, _, _]) (Plan bst sb tb nb ub vgb sc tc nc uc gc bc ne ue d N gen (slc sg 0 segs.length cap) (ptr lb 0) num m0 m1 m2 m3 base last y hnm hum) rfl rfl rfl rfl ?_)
      rintro _ _ ⟨pb, da, inn, no, af, fr, noc, ac, fc, noe, ae, fe, am, rfl, hpn, hpa, hpf, rfl⟩; refine J.put rfl ?_; refine J.nm ?_
      refine J.eachD [4] (by kernel_rfl) (by simp) (fun i hi => ?_)
      simp only [List.mem_cons, List.not_mem_nil, or_false] at hi
      subst hi
      refine J.wpOpD rfl rfl ?_
      (refine J.isCallF ?_; refine J.call (H1 := [_, _, _, _, _, _, _, _, _, _, _, _, _, _, _, _, _, _, _, _, _, _]) (hW pb da inn no af fr am noc ac fc noe ae fe hpn hpa hpf) rfl rfl rfl rfl ?_)
      rintro _ _ ⟨q, im, be, bc', le', lc', fv', wv', Hw', rfl, hbe, hl', hf', hw', rfl⟩; refine J.put rfl ?_; refine J.nm ?_
      refine J.eachD [5] (by kernel_rfl) (by simp) (fun i hi => ?_)
      simp only [List.mem_cons, List.not_mem_nil, or_false] at hi
      subst hi
      refine J.wpOpD rfl rfl ?_
      (refine wo ?_; (try intro b))
      refine J.allD (by kernel_rfl) ?_
      (try refine wkD ?_); (repeat (intro b; (try refine wkD ?_)))
      refine J.doneD (H1 := [_]) (.inl rfl) (AbortD bst _) rfl rfl rfl (res1d rfl rfl) ?_
      rintro _ _ ⟨s1, t1, n1, u1, g1, rfl⟩
      exact ⟨s1, t1, n1, u1, g1, q, am, im, be, bc', le', lc', fv', wv', Hw', rfl, hbe, hl', hf', hw', rfl⟩
  · skip
    refine J.wpOpD rfl rfl ?_
    (refine wo ?_; (try intro b))
    refine J.eachD [0, 2, 3] (by kernel_rfl) (by simp) (fun i hi => ?_)
    simp only [List.mem_cons, List.not_mem_nil, or_false] at hi
    rcases hi with rfl | rfl | rfl
    · skip
      refine J.wpOpD rfl rfl ?_
      (refine wo ?_; (try intro b))
      refine J.eachD [2, 3] (by kernel_rfl) (by simp) (fun i hi => ?_)
      simp only [List.mem_cons, List.not_mem_nil, or_false] at hi
      rcases hi with rfl | rfl
      · skip
        refine J.wpOpD rfl rfl ?_
        (refine J.isCallF ?_; refine J.call (H1 := [_, _, _, _, _, _, _]) (Plan bst sb tb nb ub vgb sc tc nc uc gc bc ne ue d N gen (slc sg 0 segs.length cap) (ptr lb 0) num m0 m1 m2 m3 base last y hnm hum) rfl rfl rfl rfl ?_)
        rintro _ _ ⟨pb, da, inn, no, af, fr, noc, ac, fc, noe, ae, fe, am, rfl, hpn, hpa, hpf, rfl⟩; refine J.put rfl ?_; refine J.nm ?_
        refine J.eachD [3] (by kernel_rfl) (by simp) (fun i hi => ?_)
        simp only [List.mem_cons, List.not_mem_nil, or_false] at hi
        subst hi
        refine J.wpOpD rfl rfl ?_
        (refine J.isLoad ?_; first | refine J.give (Gives.loadA 7 rfl rfl rfl rfl nrm) rfl rfl ?_ | refine J.give (Gives.loadA 14 rfl rfl rfl rfl nrm) rfl rfl ?_)
        refine J.eachD [4] (by kernel_rfl) (by simp) (fun i hi => ?_)
        simp only [List.mem_cons, List.not_mem_nil, or_false] at hi
        subst hi
        refine J.wpOpD rfl rfl ?_
        (refine J.isCallF ?_; refine J.call (H1 := [_, _, _, _, _, _, _, _, _, _, _, _, _, _, _, _, _, _, _, _, _, _]) (hW pb da inn no af fr am noc ac fc noe ae fe hpn hpa hpf) rfl rfl rfl rfl ?_)
        rintro _ _ ⟨q, im, be, bc', le', lc', fv', wv', Hw', rfl, hbe, hl', hf', hw', rfl⟩; refine J.put rfl ?_; refine J.nm ?_
        refine J.eachD [5] (by kernel_rfl) (by simp) (fun i hi => ?_)
        simp only [List.mem_cons, List.not_mem_nil, or_false] at hi
        subst hi
        refine J.wpOpD rfl rfl ?_
        (refine wo ?_; (try intro b))
        refine J.allD (by kernel_rfl) ?_
        (try refine wkD ?_); (repeat (intro b; (try refine wkD ?_)))
        refine J.doneD (H1 := [_]) (.inl rfl) (AbortD bst _) rfl rfl rfl (res1d rfl rfl) ?_
        rintro _ _ ⟨s1, t1, n1, u1, g1, rfl⟩
        exact ⟨s1, t1, n1, u1, g1, q, am, im, be, bc', le', lc', fv', wv', Hw', rfl, hbe, hl', hf', hw', rfl⟩
      · skip
        refine J.wpOpD rfl rfl ?_
        (refine J.isLoad ?_; first | refine J.give (Gives.loadA 7 rfl rfl rfl rfl nrm) rfl rfl ?_ | refine J.give (Gives.loadA 14 rfl rfl rfl rfl nrm) rfl rfl ?_)
        refine J.eachD [2] (by kernel_rfl) (by simp) (fun i hi => ?_)
        simp only [List.mem_cons, List.not_mem_nil, or_false] at hi
        subst hi
        refine J.wpOpD rfl rfl ?_
        (refine J.isCallF ?_; refine J.call (H1 := [_, _, _, _, _, _, _]) (Plan bst sb tb nb ub vgb sc tc nc uc gc bc ne ue d N gen (slc sg 0 segs.length cap) (ptr lb 0) num m0 m1 m2 m3 base last y hnm hum) rfl rfl rfl rfl ?_)
        rintro _ _ ⟨pb, da, inn, no, af, fr, noc, ac, fc, noe, ae, fe, am, rfl, hpn, hpa, hpf, rfl⟩; refine J.put rfl ?_; refine J.nm ?_
        refine J.eachD [4] (by kernel_rfl) (by simp) (fun i hi => ?_)
        simp only [List.mem_cons, List.not_mem_nil, or_false] at hi
        subst hi
        refine J.wpOpD rfl rfl ?_
        (refine J.isCallF ?_; refine J.call (H1 := [_, _, _, _, _, _, _, _, _, _, _, _, _, _, _, _, _, _, _, _, _, _]) (hW pb da inn no af fr am noc ac fc noe ae fe hpn hpa hpf) rfl rfl rfl rfl ?_)
        rintro _ _ ⟨q, im, be, bc', le', lc', fv', wv', Hw', rfl, hbe, hl', hf', hw', rfl⟩; refine J.put rfl ?_; refine J.nm ?_
        refine J.eachD [5] (by kernel_rfl) (by simp) (fun i hi => ?_)
        simp only [List.mem_cons, List.not_mem_nil, or_false] at hi
        subst hi
        refine J.wpOpD rfl rfl ?_
        (refine wo ?_; (try intro b))
        refine J.allD (by kernel_rfl) ?_
        (try refine wkD ?_); (repeat (intro b; (try refine wkD ?_)))
        refine J.doneD (H1 := [_]) (.inl rfl) (AbortD bst _) rfl rfl rfl (res1d rfl rfl) ?_
        rintro _ _ ⟨s1, t1, n1, u1, g1, rfl⟩
        exact ⟨s1, t1, n1, u1, g1, q, am, im, be, bc', le', lc', fv', wv', Hw', rfl, hbe, hl', hf', hw', rfl⟩
    · skip
      refine J.wpOpD rfl rfl ?_
      (refine J.isCallF ?_; refine J.call (H1 := [_, _, _, _, _, _, _]) (Plan bst sb tb nb ub vgb sc tc nc uc gc bc ne ue d N gen (slc sg 0 segs.length cap) (ptr lb 0) num m0 m1 m2 m3 base last y hnm hum) rfl rfl rfl rfl ?_)
      rintro _ _ ⟨pb, da, inn, no, af, fr, noc, ac, fc, noe, ae, fe, am, rfl, hpn, hpa, hpf, rfl⟩; refine J.put rfl ?_; refine J.nm ?_
      refine J.eachD [0, 3] (by kernel_rfl) (by simp) (fun i hi => ?_)
      simp only [List.mem_cons, List.not_mem_nil, or_false] at hi
      rcases hi with rfl | rfl
      · skip
        refine J.wpOpD rfl rfl ?_
        (refine wo ?_; (try intro b))
        refine J.eachD [3] (by kernel_rfl) (by simp) (fun i hi => ?_)
        simp only [List.mem_cons, List.not_mem_nil, or_false] at hi
        subst hi
        refine J.wpOpD rfl rfl ?_
        (refine J.isLoad ?_; first | refine J.give (Gives.loadA 7 rfl rfl rfl rfl nrm) rfl rfl ?_ | refine J.give (Gives.loadA 14 rfl rfl rfl rfl nrm) rfl rfl ?_)
        refine J.eachD [4] (by kernel_rfl) (by simp) (fun i hi => ?_)
        simp only [List.mem_cons, List.not_mem_nil, or_false] at hi
        subst hi
        refine J.wpOpD rfl rfl ?_
        (refine J.isCallF ?_; refine J.call (H1 := [_, _, _, _, _, _, _, _, _, _, _, _, _, _, _, _, _, _, _, _, _, _]) (hW pb da inn no af fr am noc ac fc noe ae fe hpn hpa hpf) rfl rfl rfl rfl ?_)
        rintro _ _ ⟨q, im, be, bc', le', lc', fv', wv', Hw', rfl, hbe, hl', hf', hw', rfl⟩; refine J.put rfl ?_; refine J.nm ?_
        refine J.eachD [5] (by kernel_rfl) (by simp) (fun i hi => ?_)
        simp only [List.mem_cons, List.not_mem_nil, or_false] at hi
        subst hi
        refine J.wpOpD rfl rfl ?_
        (refine wo ?_; (try intro b))
        refine J.allD (by kernel_rfl) ?_
        (try refine wkD ?_); (repeat (intro b; (try refine wkD ?_)))
        refine J.doneD (H1 := [_]) (.inl rfl) (AbortD bst _) rfl rfl rfl (res1d rfl rfl) ?_
        rintro _ _ ⟨s1, t1, n1, u1, g1, rfl⟩
        exact ⟨s1, t1, n1, u1, g1, q, am, im, be, bc', le', lc', fv', wv', Hw', rfl, hbe, hl', hf', hw', rfl⟩
      · skip
        refine J.wpOpD rfl rfl ?_
        (refine J.isLoad ?_; first | refine J.give (Gives.loadA 7 rfl rfl rfl rfl nrm) rfl rfl ?_ | refine J.give (Gives.loadA 14 rfl rfl rfl rfl nrm) rfl rfl ?_)
        refine J.eachD [0] (by kernel_rfl) (by simp) (fun i hi => ?_)
        simp only [List.mem_cons, List.not_mem_nil, or_false] at hi
        subst hi
        refine J.wpOpD rfl rfl ?_
        (refine wo ?_; (try intro b))
        refine J.eachD [4] (by kernel_rfl) (by simp) (fun i hi => ?_)
        simp only [List.mem_cons, List.not_mem_nil, or_false] at hi
        subst hi
        refine J.wpOpD rfl rfl ?_
        (refine J.isCallF ?_; refine J.call (H1 := [_, _, _, _, _, _, _, _, _, _, _, _, _, _, _, _, _, _, _, _, _, _]) (hW pb da inn no af fr am noc ac fc noe ae fe hpn hpa hpf) rfl rfl rfl rfl ?_)
        rintro _ _ ⟨q, im, be, bc', le', lc', fv', wv', Hw', rfl, hbe, hl', hf', hw', rfl⟩; refine J.put rfl ?_; refine J.nm ?_
        refine J.eachD [5] (by kernel_rfl) (by simp) (fun i hi => ?_)
        simp only [List.mem_cons, List.not_mem_nil, or_false] at hi
        subst hi
        refine J.wpOpD rfl rfl ?_
        (refine wo ?_; (try intro b))
        refine J.allD (by kernel_rfl) ?_
        (try refine wkD ?_); (repeat (intro b; (try refine wkD ?_)))
        refine J.doneD (H1 := [_]) (.inl rfl) (AbortD bst _) rfl rfl rfl (res1d rfl rfl) ?_
        rintro _ _ ⟨s1, t1, n1, u1, g1, rfl⟩
        exact ⟨s1, t1, n1, u1, g1, q, am, im, be, bc', le', lc', fv', wv', Hw', rfl, hbe, hl', hf', hw', rfl⟩
    · skip
      refine J.wpOpD rfl rfl ?_
      (refine J.isLoad ?_; first | refine J.give (Gives.loadA 7 rfl rfl rfl rfl nrm) rfl rfl ?_ | refine J.give (Gives.loadA 14 rfl rfl rfl rfl nrm) rfl rfl ?_)
      refine J.eachD [0, 2] (by kernel_rfl) (by simp) (fun i hi => ?_)
      simp only [List.mem_cons, List.not_mem_nil, or_false] at hi
      rcases hi with rfl | rfl
      · skip
        refine J.wpOpD rfl rfl ?_
        (refine wo ?_; (try intro b))
        refine J.eachD [2] (by kernel_rfl) (by simp) (fun i hi => ?_)
        simp only [List.mem_cons, List.not_mem_nil, or_false] at hi
        subst hi
        refine J.wpOpD rfl rfl ?_
        (refine J.isCallF ?_; refine J.call (H1 := [_, _, _, _, _, _, _]) (Plan bst sb tb nb ub vgb sc tc nc uc gc bc ne ue d N gen (slc sg 0 segs.length cap) (ptr lb 0) num m0 m1 m2 m3 base last y hnm hum) rfl rfl rfl rfl ?_)
        rintro _ _ ⟨pb, da, inn, no, af, fr, noc, ac, fc, noe, ae, fe, am, rfl, hpn, hpa, hpf, rfl⟩; refine J.put rfl ?_; refine J.nm ?_
        refine J.eachD [4] (by kernel_rfl) (by simp) (fun i hi => ?_)
        simp only [List.mem_cons, List.not_mem_nil, or_false] at hi
        subst hi
        refine J.wpOpD rfl rfl ?_
        (refine J.isCallF ?_; refine J.call (H1 := [_, _, _, _, _, _, _, _, _, _, _, _, _, _, _, _, _, _, _, _, _, _]) (hW pb da inn no af fr am noc ac fc noe ae fe hpn hpa hpf) rfl rfl rfl rfl ?_)
        rintro _ _ ⟨q, im, be, bc', le', lc', fv', wv', Hw', rfl, hbe, hl', hf', hw', rfl⟩; refine J.put rfl ?_; refine J.nm ?_
        refine J.eachD [5] (by kernel_rfl) (by simp) (fun i hi => ?_)
        simp only [List.mem_cons, List.not_mem_nil, or_false] at hi
        subst hi
        refine J.wpOpD rfl rfl ?_
        (refine wo ?_; (try intro b))
        refine J.allD (by kernel_rfl) ?_
        (try refine wkD ?_); (repeat (intro b; (try refine wkD ?_)))
        refine J.doneD (H1 := [_]) (.inl rfl) (AbortD bst _) rfl rfl rfl (res1d rfl rfl) ?_
        rintro _ _ ⟨s1, t1, n1, u1, g1, rfl⟩
        exact ⟨s1, t1, n1, u1, g1, q, am, im, be, bc', le', lc', fv', wv', Hw', rfl, hbe, hl', hf', hw', rfl⟩
      · skip
        refine J.wpOpD rfl rfl ?_
        (refine J.isCallF ?_; refine J.call (H1 := [_, _, _, _, _, _, _]) (Plan bst sb tb nb ub vgb sc tc nc uc gc bc ne ue d N gen (slc sg 0 segs.length cap) (ptr lb 0) num m0 m1 m2 m3 base last y hnm hum) rfl rfl rfl rfl ?_)
        rintro _ _ ⟨pb, da, inn, no, af, fr, noc, ac, fc, noe, ae, fe, am, rfl, hpn, hpa, hpf, rfl⟩; refine J.put rfl ?_; refine J.nm ?_
        refine J.eachD [0] (by kernel_rfl) (by simp) (fun i hi => ?_)
        simp only [List.mem_cons, List.not_mem_nil, or_false] at hi
        subst hi
        refine J.wpOpD rfl rfl ?_
        (refine wo ?_; (try intro b))
        refine J.eachD [4] (by kernel_rfl) (by simp) (fun i hi => ?_)
        simp only [List.mem_cons, List.not_mem_nil, or_false] at hi
        subst hi
        refine J.wpOpD rfl rfl ?_
        (refine J.isCallF ?_; refine J.call (H1 := [_, _, _, _, _, _, _, _, _, _, _, _, _, _, _, _, _, _, _, _, _, _]) (hW pb da inn no af fr am noc ac fc noe ae fe hpn hpa hpf) rfl rfl rfl rfl ?_)
        rintro _ _ ⟨q, im, be, bc', le', lc', fv', wv', Hw', rfl, hbe, hl', hf', hw', rfl⟩; refine J.put rfl ?_; refine J.nm ?_
        refine J.eachD [5] (by kernel_rfl) (by simp) (fun i hi => ?_)
        simp only [List.mem_cons, List.not_mem_nil, or_false] at hi
        subst hi
        refine J.wpOpD rfl rfl ?_
        (refine wo ?_; (try intro b))
        refine J.allD (by kernel_rfl) ?_
        (try refine wkD ?_); (repeat (intro b; (try refine wkD ?_)))
        refine J.doneD (H1 := [_]) (.inl rfl) (AbortD bst _) rfl rfl rfl (res1d rfl rfl) ?_
        rintro _ _ ⟨s1, t1, n1, u1, g1, rfl⟩
        exact ⟨s1, t1, n1, u1, g1, q, am, im, be, bc', le', lc', fv', wv', Hw', rfl, hbe, hl', hf', hw', rfl⟩
  · skip
    refine J.wpOpD rfl rfl ?_
    (refine J.isLoad ?_; first | refine J.give (Gives.loadA 7 rfl rfl rfl rfl nrm) rfl rfl ?_ | refine J.give (Gives.loadA 14 rfl rfl rfl rfl nrm) rfl rfl ?_)
    refine J.eachD [0, 1] (by kernel_rfl) (by simp) (fun i hi => ?_)
    simp only [List.mem_cons, List.not_mem_nil, or_false] at hi
    rcases hi with rfl | rfl
    · skip
      refine J.wpOpD rfl rfl ?_
      (refine wo ?_; (try intro b))
      refine J.eachD [1] (by kernel_rfl) (by simp) (fun i hi => ?_)
      simp only [List.mem_cons, List.not_mem_nil, or_false] at hi
      subst hi
      refine J.wpOpD rfl rfl ?_
      (refine wo ?_; (try intro b))
      refine J.eachD [2] (by kernel_rfl) (by simp) (fun i hi => ?_)
      simp only [List.mem_cons, List.not_mem_nil, or_false] at hi
      subst hi
      refine J.wpOpD rfl rfl ?_
      (refine J.isCallF ?_; refine J.call (H1 := [_, _, _, _, _, _, _]) (Plan bst sb tb nb ub vgb sc tc nc uc gc bc ne ue d N gen (slc sg 0 segs.length cap) (ptr lb 0) num m0 m1 m2 m3 base last y hnm hum) rfl rfl rfl rfl ?_)
      rintro _ _ ⟨pb, da, inn, no, af, fr, noc, ac, fc, noe, ae, fe, am, rfl, hpn, hpa, hpf, rfl⟩; refine J.put rfl ?_; refine J.nm ?_
      refine J.eachD [4] (by kernel_rfl) (by simp) (fun i hi => ?_)
      simp only [List.mem_cons, List.not_mem_nil, or_false] at hi
      subst hi
      refine J.wpOpD rfl rfl ?_
      (refine J.isCallF ?_; refine J.call (H1 := [_, _, _, _, _, _, _, _, _, _, _, _, _, _, _, _, _, _, _, _, _, _]) (hW pb da inn no af fr am noc ac fc noe ae fe hpn hpa hpf) rfl rfl rfl rfl ?_)
      rintro _ _ ⟨q, im, be, bc', le', lc', fv', wv', Hw', rfl, hbe, hl', hf', hw', rfl⟩; refine J.put rfl ?_; refine J.nm ?_
      refine J.eachD [5] (by kernel_rfl) (by simp) (fun i hi => ?_)
      simp only [List.mem_cons, List.not_mem_nil, or_false] at hi
      subst hi
      refine J.wpOpD rfl rfl ?_
      (refine wo ?_; (try intro b))
      refine J.allD (by kernel_rfl) ?_
      (try refine wkD ?_); (repeat (intro b; (try refine wkD ?_)))
      refine J.doneD (H1 := [_]) (.inl rfl) (AbortD bst _) rfl rfl rfl (res1d rfl rfl) ?_
      rintro _ _ ⟨s1, t1, n1, u1, g1, rfl⟩
      exact ⟨s1, t1, n1, u1, g1, q, am, im, be, bc', le', lc', fv', wv', Hw', rfl, hbe, hl', hf', hw', rfl⟩
    · skip
      refine J.wpOpD rfl rfl ?_
      (refine wo ?_; (try intro b))
      refine J.eachD [0, 2] (by kernel_rfl) (by simp) (fun i hi => ?_)
      simp only [List.mem_cons, List.not_mem_nil, or_false] at hi
      rcases hi with rfl | rfl
      · skip
        refine J.wpOpD rfl rfl ?_
        (refine wo ?_; (try intro b))
        refine J.eachD [2] (by kernel_rfl) (by simp) (fun i hi => ?_)
        simp only [List.mem_cons, List.not_mem_nil, or_false] at hi
        subst hi
        refine J.wpOpD rfl rfl ?_
        (refine J.isCallF ?_; refine J.call (H1 := [_, _, _, _, _, _, _]) (Plan bst sb tb nb ub vgb sc tc nc uc gc bc ne ue d N gen (slc sg 0 segs.length cap) (ptr lb 0) num m0 m1 m2 m3 base last y hnm hum) rfl rfl rfl rfl ?_)
        rintro _ _ ⟨pb, da, inn, no, af, fr, noc, ac, fc, noe, ae, fe, am, rfl, hpn, hpa, hpf, rfl⟩; refine J.put rfl ?_; refine J.nm ?_
        refine J.eachD [4] (by kernel_rfl) (by simp) (fun i hi => ?_)
        simp only [List.mem_cons, List.not_mem_nil, or_false] at hi
        subst hi
        refine J.wpOpD rfl rfl ?_
        (refine J.isCallF ?_; refine J.call (H1 := [_, _, _, _, _, _, _, _, _, _, _, _, _, _, _, _, _, _, _, _, _, _]) (hW pb da inn no af fr am noc ac fc noe ae fe hpn hpa hpf) rfl rfl rfl rfl ?_)
        rintro _ _ ⟨q, im, be, bc', le', lc', fv', wv', Hw', rfl, hbe, hl', hf', hw', rfl⟩; refine J.put rfl ?_; refine J.nm ?_
        refine J.eachD [5] (by kernel_rfl) (by simp) (fun i hi => ?_)
        simp only [List.mem_cons, List.not_mem_nil, or_false] at hi
        subst hi
        refine J.wpOpD rfl rfl ?_
        (refine wo ?_; (try intro b))
        refine J.allD (by kernel_rfl) ?_
        (try refine wkD ?_); (repeat (intro b; (try refine wkD ?_)))
        refine J.doneD (H1 := [_]) (.inl rfl) (AbortD bst _) rfl rfl rfl (res1d rfl rfl) ?_
        rintro _ _ ⟨s1, t1, n1, u1, g1, rfl⟩
        exact ⟨s1, t1, n1, u1, g1, q, am, im, be, bc', le', lc', fv', wv', Hw', rfl, hbe, hl', hf', hw', rfl⟩
      · skip
        refine J.wpOpD rfl rfl ?_
        (refine J.isCallF ?_; refine J.call (H1 := [_, _, _, _, _, _, _]) (Plan bst sb tb nb ub vgb sc tc nc uc gc bc ne ue d N gen (slc sg 0 segs.length cap) (ptr lb 0) num m0 m1 m2 m3 base last y hnm hum) rfl rfl rfl rfl ?_)
        rintro _ _ ⟨pb, da, inn, no, af, fr, noc, ac, fc, noe, ae, fe, am, rfl, hpn, hpa, hpf, rfl⟩; refine J.put rfl ?_; refine J.nm ?_
        refine J.eachD [0] (by kernel_rfl) (by simp) (fun i hi => ?_)
        simp only [List.mem_cons, List.not_mem_nil, or_false] at hi
        subst hi
        refine J.wpOpD rfl rfl ?_
        (refine wo ?_; (try intro b))
        refine J.eachD [4] (by kernel_rfl) (by simp) (fun i hi => ?_)
        simp only [List.mem_cons, List.not_mem_nil, or_false] at hi
        subst hi
        refine J.wpOpD rfl rfl ?_
        (refine J.isCallF ?_; refine J.call (H1 := [_, _, _, _, _, _, _, _, _, _, _, _, _, _, _, _, _, _, _, _, _, _]) (hW pb da inn no af fr am noc ac fc noe ae fe hpn hpa hpf) rfl rfl rfl rfl ?_)
        rintro _ _ ⟨q, im, be, bc', le', lc', fv', wv', Hw', rfl, hbe, hl', hf', hw', rfl⟩; refine J.put rfl ?_; refine J.nm ?_
        refine J.eachD [5] (by kernel_rfl) (by simp) (fun i hi => ?_)
        simp only [List.mem_cons, List.not_mem_nil, or_false] at hi
        subst hi
        refine J.wpOpD rfl rfl ?_
        (refine wo ?_; (try intro b))
        refine J.allD (by kernel_rfl) ?_
        (try refine wkD ?_); (repeat (intro b; (try refine wkD ?_)))
        refine J.doneD (H1 := [_]) (.inl rfl) (AbortD bst _) rfl rfl rfl (res1d rfl rfl) ?_
        rintro _ _ ⟨s1, t1, n1, u1, g1, rfl⟩
        exact ⟨s1, t1, n1, u1, g1, q, am, im, be, bc', le', lc', fv', wv', Hw', rfl, hbe, hl', hf', hw', rfl⟩
end Go.Proofs.YF
namespace Go.Proofs.YF
open Go YE
attribute [local irreducible] CW LW OW XW AW PW HW RW AK HK AP HP DX CI LI OI BW RE MW J Gives
set_option maxHeartbeats 1000000
set_option maxRecDepth 20000
attribute [local irreducible] AD WD
set_option maxHeartbeats 4000000

abbrev mapL (sec : Int) : List Int := (List.replicate 256 (0 : Int)).set 1 sec
theorem put2_cons (v : Int) (l : List Int) : put2 (v :: l) = le v 2 ++ put2 l := by
  have h : ∀ (l : List Int) (s : ByteArray), l.foldl (fun s v => s ++ le v 2) s = s ++ put2 l := by
    intro l
    induction l with
    | nil => intro s; simp [put2]; exact bv_inj (by simp [bv_append]; rfl)
    | cons a l ih =>
      intro s
      have e : put2 (a :: l) = (le a 2 ++ put2 l) := by
        show l.foldl _ (⟨#[]⟩ ++ le a 2) = _
        rw [ih]; exact bv_inj (by simp [bv_append]; rfl)
      rw [e]
      show l.foldl _ (s ++ le a 2) = _
      rw [ih]; exact bv_inj (by simp [bv_append])
  show l.foldl _ (⟨#[]⟩ ++ le v 2) = _
  rw [h]; exact bv_inj (by simp [bv_append]; rfl)
theorem put2_zeros : ∀ k : Nat, put2 (List.replicate k 0) = zeros (2 * k)
  | 0 => rfl
  | k + 1 => by
    rw [List.replicate_succ, put2_cons, put2_zeros k]
    apply bv_inj
    rw [bv_append, zeros_bv, zeros_bv, Nat.mul_add, Nat.add_comm, ← List.replicate_append_replicate]
    rfl
theorem part_zero (sec : Int) (p : Nat) (hp : p = 1 ∨ p = 2 ∨ p = 3) : partBlock (mapL sec) p = zeros 256 := by
  have h : ((mapL sec).drop (p * 64)).take 64 = List.replicate 64 0 := by
    rcases hp with rfl | rfl | rfl <;> rfl
  unfold partBlock
  rw [h, put2_zeros, zeros_add]
theorem part_ne (sec : Int) (h : 48 ≤ sec ∧ sec ≤ 20000) : partBlock (mapL sec) 0 ≠ zeros 256 := by
  intro e
  have h0 : ((mapL sec).drop (0 * 64)).take 64 = 0 :: sec :: List.replicate 62 0 := rfl
  unfold partBlock at e
  rw [h0, put2_cons, put2_cons] at e
  have e1 := congrArg bv e
  rw [bv_append, bv_append, bv_append, le_bv, le_bv, zeros_bv, zeros_bv] at e1
  have i2 : some (lecell sec 0) = some (Value.int .u8 0) := congrArg (fun l => l[2]?) e1
  have i3 : some (lecell sec 1) = some (Value.int .u8 0) := congrArg (fun l => l[3]?) e1
  simp [lecell, IntKind.wrap, IntKind.bits, IntKind.signed] at i2 i3
  rw [Int.fdiv_eq_ediv_of_nonneg _ (by omega)] at i3
  omega
theorem part_nz (sec : Int) (h : 48 ≤ sec ∧ sec ≤ 20000) : ((partBlock (mapL sec) 0).toList == (zeros 256).toList) = false := by
  refine beq_eq_false_iff_ne.2 fun e => part_ne sec h ?_
  rw [ByteArray.toList_eq, ByteArray.toList_eq] at e
  exact bv_inj (by unfold bv; rw [e])
theorem LivesAre1 (bst p bm im bmc imc : Nat) (c : List Value) (gb : Nat) (st : Sto) (N : Nat) (hN : 8 ≤ N ∧ N ≤ 500) (hst : st.N = N) (x : Nd) (sec : Int) (hs : 48 ≤ sec ∧ sec < 48 + N * 32) (be : List MapEntry) (bc : Nat) (hbm : MapOK ki kp [(1, p)] be bc) (F : Hs) :
    LivesAre bst ([(bst, .cells st.cells 92 (0, 0))] :: [(gb, .cells c 3 (0, 0))] :: [(st.base, .map be bc)] :: [(p, .cells (stcells x sec bm im) 108 (0, 0))] :: [(bm, .map [] bmc)] :: [(im, .map [] imc)] :: F) [(segOf sec, 1)] := by
  refine Sp.frame ([(gb, .cells c 3 (0, 0))] :: F) (Lives1 bst p bm im bmc imc st N hN hst x sec hs be bc hbm) ?_ ?_
  · exact List.Perm.cons _ (List.perm_middle (l₁ := [_, _, _, _]))
  · rintro v H' ⟨lb, le, lc, rfl, hm, rfl⟩
    exact ⟨_, ⟨lb, le, lc, rfl, hm, rfl⟩, List.Perm.cons _ (List.Perm.cons _ (List.perm_middle (l₁ := [_, _, _, _])))⟩
/-- Where the chunk of a checkpoint lies. -/
abbrev secM (x : Slv) : Int := 48 + 32 * x.seg + x.pos + 1
abbrev cpS (x : Slv) (num : Int) : Slv := { x.behind (sameH x) 2 with num := num + 1, m0 := secM x, m1 := 0, m2 := 0, m3 := 0 }
theorem Checkpoint (bst s1 t1 n1 u1 g1 : Nat) (sg cap : Nat) (d N : Nat) (hN : 8 ≤ N ∧ N ≤ 500) (gen : Int) (hgen : 1 ≤ gen ∧ gen ≤ 65535) (lb : Nat) (num : Int) (hnum : 0 ≤ num ∧ num ≤ 1000000) (base last : Nat) (segs : List Int) (rest : List Value) (hn : 8 ≤ segs.length ∧ segs.length ≤ 500) (ll : List (Int × Int)) (le : List MapEntry) (lc : Nat) (hlm : MapOK ki ki ll le lc)
    (x : Slv) (fv : Value) (xs : List Int) (Hf : Heap) (hf : Ints fv xs Hf) (hxs : xs.length ≤ 100000) (hx : 0 ≤ x.pos ∧ x.pos + 2 ≤ 32) (hseg : 0 ≤ x.seg ∧ x.seg < N) (hseq : 0 ≤ x.seq ∧ x.seq ≤ 100000000)
    (t : Rest) (db S : Nat) (hS : S = 48 + 32 * N) (wv : Value) (wr : Int) (n : Nat) (ws : List (Int × Int × ByteArray)) (Hw : Heap) (D : List ByteArray) (hD : Secs S D) (hwo : Wok S ws) (hw : Sl 139 258 wv n (wcells ws) Hw) (hnn : n ≤ 100000) (hwr : 0 ≤ wr ∧ wr ≤ 100000000)
    (y : Nd) (q am im : Nat) (be : List MapEntry) (bc : Nat) (sec : Int) (hsec : 48 ≤ sec ∧ sec < 48 + N * 32) (hbm : MapOK ki kp [(1, q)] be bc) (hok : ((sameH x).at gen x).Ok) (hok2 : (cpS x num).Ok) :
    Sp Tryz.prog 49 #[ptr bst 0] ([[(bst, .cells (stOf d N gen sg segs.length cap lb num 0 0 0 0 base last s1 t1 n1 u1 g1).cells 92 (0, 0))]] ++ nows s1 t1 n1 u1 g1 ++
          [[(sg, .cells (ints segs ++ rest) 3 (0, 0))], [(base, .map be bc)], [(last, .map le lc)], [(lb, .cells (lcell d N gen x fv) 190 (0, 0))], Hf, [(d, .cells (dcell t db S wv wr) 114 (0, 0))], [(db, .cells (dcells D) 137 (0, 0))], Hw, [(q, .cells (stcells y sec am im) 108 (0, 0))], [(am, .map [] 0)], [(im, .map [] 0)]])
      (fun v H => ∃ lb' fv' Hr' le' lc', v = .bool true ∧ MapOK ki ki (aset ll x.seg x.seq) le' lc' ∧ Sl 3 1 fv' (emptyL [(segOf sec, 1)] x.seg x.next segs).length (ints (emptyL [(segOf sec, 1)] x.seg x.next segs)) Hr' ∧
        H = [[(bst, .cells (stOf d N gen sg segs.length cap lb' (num + 1) (secM x) 0 0 0 base last s1 t1 n1 u1 g1).cells 92 (0, 0))]] ++ nows s1 t1 n1 u1 g1 ++
          [[(sg, .cells (ints segs ++ rest) 3 (0, 0))], [(base, .map be bc)], [(last, .map le' lc')], [(lb', .cells (lcell d N gen (cpS x num) fv') 190 (0, 0))], Hr', [(d, .cells (dcell t db S nils (wr + 3)) 114 (0, 0))],
            [(db, .cells (dcells (flush (flush (flush D (ws ++ pwt (48 + 32 * x.seg + x.pos) wr [partBlock (mapL sec) 0])) [(wr + 1, 48 + 32 * x.seg + x.pos, headBlock ((sameH x).at gen x) [⟨4, 1, 0⟩] (joinT [partBlock (mapL sec) 0]))]) [(wr + 2, 18 + par (num + 1), slotBlock 2 gen (cpS x num))])) 137 (0, 0))],
            [(q, .cells (stcells y sec am im) 108 (0, 0))], [(am, .map [] 0)], [(im, .map [] 0)]]) := by
  refine Sp.intro Tryz.func49 rfl rfl rfl fun w K => ?_
  have hiz := hsec
  have hLv : ∀ v, v ∈ mapL sec → 0 ≤ v ∧ v < 16384 := by
    intro v hv
    rcases List.mem_or_eq_of_mem_set hv with h | rfl
    · rw [(List.mem_replicate.1 h).2]; omega
    · omega
  refine J.norm (H' := [[(bst, .cells (stOf d N gen sg segs.length cap lb num 0 0 0 0 base last s1 t1 n1 u1 g1).cells 92 (0, 0))], [(s1, .map [] 0)], [(t1, .map [] 0)], [(n1, .map [] 0)], [(u1, .map [] 0)], [(g1, .map [] 0)],
          [(sg, .cells (ints segs ++ rest) 3 (0, 0))], [(base, .map be bc)], [(last, .map le lc)], [(lb, .cells (lcell d N gen x fv) 190 (0, 0))], Hf, [(d, .cells (dcell t db S wv wr) 114 (0, 0))], [(db, .cells (dcells D) 137 (0, 0))], Hw, [(q, .cells (stcells y sec am im) 108 (0, 0))], [(am, .map [] 0)], [(im, .map [] 0)]]) rfl ?_
  obtain ⟨e0, rfl, hek, hev⟩ := one_entry hbm
  refine J.or [11, 0, 7, 14, 9, 6, 8, 10, 12, 13, 15, 16, 1, 2, 3, 4, 5] 17 ?_
  (try refine wk ?_); (repeat (intro b; (try refine wk ?_)))
  (refine J.op rfl ?_; refine J.isCallF ?_; refine J.call (H1 := [_]) (Down d t db S wv wr) rfl rfl rfl rfl ?_)
  rintro _ _ ⟨rfl, rfl⟩; refine J.pn ?_
  (try refine wk ?_); (repeat (intro b; (try refine wk ?_)))
  (refine J.op rfl ?_; refine J.isCallF ?_; refine J.call (H1 := []) (ImapNew) rfl rfl rfl rfl ?_)
  rintro _ _ ⟨mb, rfl, rfl⟩; refine J.put rfl ?_; refine J.nm ?_
  (try refine wk ?_); (repeat (intro b; (try refine wk ?_)))
  refine J.op rfl ?_; refine J.isRange ?_; refine J.range 3 rfl rfl rfl rfl rfl ?_; intro r
  (try refine wk ?_); (repeat (intro b; (try refine wk ?_)))
  refine J.pick [0, 3, 27] rfl ?_
  refine J.loop (α := Bool) (fun _ => [(0, ptr bst 0), (3, ptr mb 0), (27, ptr r 0)])
    (fun z => match z with
      | false => [[(r, iter base bc [])], [(mb, .cells (ints (List.replicate 256 0)) 201 (0, 0))], [(d, .cells (dcell t db S wv wr) 114 (0, 0))], [(bst, .cells (stOf d N gen sg segs.length cap lb num 0 0 0 0 base last s1 t1 n1 u1 g1).cells 92 (0, 0))], [(base, .map [e0] bc)], [(q, .cells (stcells y sec am im) 108 (0, 0))], [(lb, .cells (lcell d N gen x fv) 190 (0, 0))], [(sg, .cells (ints segs ++ rest) 3 (0, 0))], [(last, .map le lc)], Hf, [(db, .cells (dcells D) 137 (0, 0))], Hw, [(am, .map [] 0)], [(im, .map [] 0)], [(s1, .map [] 0)], [(t1, .map [] 0)], [(n1, .map [] 0)], [(u1, .map [] 0)], [(g1, .map [] 0)]]
      | true => [[(r, iter base bc [e0])], [(mb, .cells (ints (mapL sec)) 201 (0, 0))], [(d, .cells (dcell t db S wv wr) 114 (0, 0))], [(bst, .cells (stOf d N gen sg segs.length cap lb num 0 0 0 0 base last s1 t1 n1 u1 g1).cells 92 (0, 0))], [(base, .map [e0] bc)], [(q, .cells (stcells y sec am im) 108 (0, 0))], [(lb, .cells (lcell d N gen x fv) 190 (0, 0))], [(sg, .cells (ints segs ++ rest) 3 (0, 0))], [(last, .map le lc)], Hf, [(db, .cells (dcells D) 137 (0, 0))], Hw, [(am, .map [] 0)], [(im, .map [] 0)], [(s1, .map [] 0)], [(t1, .map [] 0)], [(n1, .map [] 0)], [(u1, .map [] 0)], [(g1, .map [] 0)]])
    (fun _ => True) (fun z => match z with | false => 1 | true => 0) false trivial (fun _ _ h => h) rfl ?_
  rintro (_ | _) _
  · skip
    refine J.seq ?_; refine J.region ?_
    refine J.op rfl ?_; refine J.isNext ?_; refine J.next (dn := []) (es := [e0]) (i := 4) (j := 0) (b := base) (clk := bc) hbm.lt rfl rfl rfl rfl rfl rfl (fun _ => rfl) (fun hall => ?_) (fun e he hne => ?_)
    · have := hall e0 (by simp)
      simp at this
    obtain rfl : e = e0 := by simpa using he
    (try refine wk ?_); (repeat (intro b; (try refine wk ?_)))
    refine J.op rfl ?_; refine J.isEntry ?_; refine J.give (Gives.entry (dn := []) (e := e) (es := [e]) (clk := bc) (b := base) 4 0 hbm.born (by simp) rfl rfl rfl rfl) rfl rfl ?_
    (try refine wk ?_); (repeat (intro b; (try refine wk ?_)))
    refine J.slot 34 (i64 1) rfl hek ?_
    refine J.slot 35 (ptr q 0) rfl hev ?_
    (try refine wk ?_); (repeat (intro b; (try refine wk ?_)))
    refine J.front 1 rfl rfl ?_
    (refine J.op rfl ?_; refine J.isCallF ?_; refine J.call (H1 := [_]) (ImapSet mb (List.replicate 256 0) 1 sec (by simp) (by omega) (by omega)) rfl rfl rfl rfl ?_)
    rintro _ _ ⟨rfl, rfl⟩; refine J.pn ?_
    (try refine wk ?_); (repeat (intro b; (try refine wk ?_)))
    refine J.front 1 rfl rfl ?_
    refine J.pick [0, 3, 27] rfl ?_
    exact J.round true trivial (by show 0 < 1; omega) (fun _ _ h => h) rfl
  refine J.seq ?_; refine J.region ?_
  refine J.op rfl ?_; refine J.isNext ?_; refine J.next (dn := [e0]) (es := [e0]) (i := 4) (j := 0) (b := base) (clk := bc) hbm.lt rfl rfl rfl rfl rfl rfl (fun _ => rfl) (fun hall => ?_) (fun e he hne => (hne (List.mem_map.2 ⟨e0, List.mem_singleton.2 rfl, by rw [List.mem_singleton.1 he]⟩)).elim)
  (try refine wk ?_); (repeat (intro b; (try refine wk ?_)))
  refine J.drop 0 ?_
  refine J.nm ?_
  refine J.or [2, 5, 0, 1, 3, 4, 6, 7, 8, 9, 10, 11, 12, 13, 14, 15, 16, 17] 18 ?_
  refine J.cutTE (α := Nat × Nat) (fun z => [(0, ptr bst 0), (3, ptr mb 0), (6, ptr z.1 0), (7, ptr z.2 0)])
    (fun z => [[(z.1, .cells ((sameH x).cells nils) 95 (0, 0))], [(z.2, .cells [i64 0, i64 0, i64 0, i64 0] 55 (0, 0))], [(bst, .cells (stOf d N gen sg segs.length cap lb num 0 0 0 0 base last s1 t1 n1 u1 g1).cells 92 (0, 0))], [(lb, .cells (lcell d N gen x fv) 190 (0, 0))], [(mb, .cells (ints (mapL sec)) 201 (0, 0))], [(d, .cells (dcell t db S wv wr) 114 (0, 0))], [(base, .map [e0] bc)], [(q, .cells (stcells y sec am im) 108 (0, 0))], [(sg, .cells (ints segs ++ rest) 3 (0, 0))], [(last, .map le lc)], Hf, [(db, .cells (dcells D) 137 (0, 0))], Hw, [(am, .map [] 0)], [(im, .map [] 0)], [(s1, .map [] 0)], [(t1, .map [] 0)], [(n1, .map [] 0)], [(u1, .map [] 0)], [(g1, .map [] 0)]]) (fun _ => True) (fun z _ => ?_) ?_
  · obtain ⟨b6, b7⟩ := z
    (try refine wk ?_); (repeat (intro b; (try refine wk ?_)))
    refine J.pick [0, 3, 6, 7, 8, 46] rfl ?_
    refine J.loop (α := Option (Nat × Value × Heap × Value × Heap)) (fun z => match z with
        | none => [(0, ptr bst 0), (3, ptr mb 0), (6, ptr b6 0), (7, ptr b7 0), (8, nils), (46, i64 (0 : Nat))]
        | some (k, lv, Hl, bv, Hb) => [(0, ptr bst 0), (3, ptr mb 0), (6, ptr b6 0), (7, ptr b7 0), (8, bv), (46, i64 k)])
      (fun z => match z with
        | none => [[(b6, .cells ((sameH x).cells nils) 95 (0, 0))], [(b7, .cells [i64 0, i64 0, i64 0, i64 0] 55 (0, 0))], [(bst, .cells (stOf d N gen sg segs.length cap lb num 0 0 0 0 base last s1 t1 n1 u1 g1).cells 92 (0, 0))], [(lb, .cells (lcell d N gen x fv) 190 (0, 0))], [(mb, .cells (ints (mapL sec)) 201 (0, 0))], [(d, .cells (dcell t db S wv wr) 114 (0, 0))], [(base, .map [e0] bc)], [(q, .cells (stcells y sec am im) 108 (0, 0))], [(sg, .cells (ints segs ++ rest) 3 (0, 0))], [(last, .map le lc)], Hf, [(db, .cells (dcells D) 137 (0, 0))], Hw, [(am, .map [] 0)], [(im, .map [] 0)], [(s1, .map [] 0)], [(t1, .map [] 0)], [(n1, .map [] 0)], [(u1, .map [] 0)], [(g1, .map [] 0)]]
        | some (k, lv, Hl, bv, Hb) => [Hl, Hb, [(b6, .cells ((sameH x).cells lv) 95 (0, 0))], [(b7, .cells [i64 0, i64 0, i64 0, i64 0] 55 (0, 0))], [(bst, .cells (stOf d N gen sg segs.length cap lb num 0 0 0 0 base last s1 t1 n1 u1 g1).cells 92 (0, 0))], [(lb, .cells (lcell d N gen x fv) 190 (0, 0))], [(mb, .cells (ints (mapL sec)) 201 (0, 0))], [(d, .cells (dcell t db S wv wr) 114 (0, 0))], [(base, .map [e0] bc)], [(q, .cells (stcells y sec am im) 108 (0, 0))], [(sg, .cells (ints segs ++ rest) 3 (0, 0))], [(last, .map le lc)], Hf, [(db, .cells (dcells D) 137 (0, 0))], Hw, [(am, .map [] 0)], [(im, .map [] 0)], [(s1, .map [] 0)], [(t1, .map [] 0)], [(n1, .map [] 0)], [(u1, .map [] 0)], [(g1, .map [] 0)]])
      (fun z => match z with
        | none => True
        | some (k, lv, Hl, bv, Hb) => 1 ≤ k ∧ k ≤ 4 ∧ Sl 131 3 lv 1 (ecells [⟨4, 1, 0⟩]) Hl ∧ Sl 9 1 bv 1 ([partBlock (mapL sec) 0].map sv') Hb) (fun z => match z with | none => 5 | some z => 4 - z.1) none trivial (fun _ _ h => h) rfl ?_
    rintro (_ | ⟨k, lv, Hl, bv, Hb⟩) hz
    · skip
      (try refine wk ?_); (repeat (intro b; (try refine wk ?_)))
      refine J.or [4, 0, 1, 2, 3, 5, 6, 7, 8, 9, 10, 11, 12, 13, 14, 15, 16, 17, 18, 19] 20 ?_
      (refine J.op rfl ?_; refine J.isCallF ?_; refine J.call (H1 := [_]) (ImapPut mb (mapL sec) 0 (by simp) hLv (by omega)) rfl rfl rfl rfl ?_)
      rintro _ _ ⟨rfl, rfl⟩; refine J.pn ?_
      (try refine wk ?_); (repeat (intro b; (try refine wk ?_)))
      refine J.slot 59 (.bool false) rfl rfl ?_
      (try refine wk ?_); (repeat (intro b; (try refine wk ?_)))
      (refine J.want rfl rfl rfl ?_; refine J.isCallF ?_; refine J.call (H1 := []) Blank rfl rfl rfl rfl ?_)
      rintro _ _ ⟨rfl, rfl⟩; refine J.pn ?_
      (try refine wk ?_); (repeat (intro b; (try refine wk ?_)))
      refine J.slot 63 (.bool true) rfl (congrArg (fun b => Value.bool (!b)) (part_nz sec (by omega))) ?_
      (try refine wk ?_); (repeat (intro b; (try refine wk ?_)))
      refine J.op rfl ?_; refine J.isBuild ?_; refine J.give (Gives.build (vs := [(0, i64 4), (1, i64 1), (2, i64 0)]) (cells := #[i64 4, i64 1, i64 0]) rfl rfl rfl) rfl rfl ?_
      refine J.op rfl ?_; refine J.isBuildSlice ?_; refine J.buildSl [.agg #[i64 4, i64 1, i64 0]] (cs := [i64 4, i64 1, i64 0]) rfl rfl rfl rfl rfl (fun v hv => by rw [List.mem_singleton.1 hv]; rfl) rfl rfl rfl ?_
      intro bn
      refine J.nilAt 0 rfl ?_
      refine J.nm ?_
      refine J.op rfl ?_; refine J.isBuiltin ?_; refine J.append (m := 1) (news := [i64 4, i64 1, i64 0]) 0 (Sl.nil 131 3) rfl rfl rfl rfl rfl (by simp [Value.oneCell']) (by simp) (by simp) ⟨by omega, by have : maxLen = 9223372036854775807 := rfl; omega⟩ rfl ?_
      intro lv Hl hl
      have hl1 := hl.one
      (try refine wk ?_); (repeat (intro b; (try refine wk ?_)))
      refine J.op rfl ?_; refine J.isBuildSlice ?_; refine J.buildSl [.string (partBlock (mapL sec) 0)] (cs := [.string (partBlock (mapL sec) 0)]) rfl rfl rfl rfl rfl (fun v hv => by rw [List.mem_singleton.1 hv]; rfl) rfl rfl rfl ?_
      intro bn2
      refine J.nilAt 0 rfl ?_
      refine J.nm ?_
      refine J.op rfl ?_; refine J.isBuiltin ?_; refine J.append (m := 1) (news := [.string (partBlock (mapL sec) 0)]) 0 (Sl.nil 9 1) rfl rfl rfl rfl rfl (by simp [Value.oneCell']) (by simp) (by simp) ⟨by omega, by have : maxLen = 9223372036854775807 := rfl; omega⟩ rfl ?_
      intro bv Hb hb
      (try refine wk ?_); (repeat (intro b; (try refine wk ?_)))
      refine J.pick [0, 3, 6, 7, 8, 46] rfl ?_
      exact J.roundT (some (1, lv, Hl, bv, Hb)) ⟨by omega, by omega, hl, hb⟩ (by show 4 - 1 < 5; omega)
    · obtain ⟨hk1, hk4, hl, hb⟩ := hz
      by_cases hk : k < 4
      · have hkc : k = 1 ∨ k = 2 ∨ k = 3 := by omega
        rcases hkc with rfl | rfl | rfl
        all_goals
          (try refine wk ?_); (repeat (intro b; (try refine wk ?_)))
          refine J.or [6, 0, 1, 2, 3, 4, 5, 7, 8, 9, 10, 11, 12, 13, 14, 15, 16, 17, 18, 19, 20, 21] 22 ?_
          (refine J.op rfl ?_; refine J.isCallF ?_; refine J.call (H1 := [_]) (ImapPut mb (mapL sec) _ (by simp) hLv (by omega)) rfl rfl rfl rfl ?_)
          rintro _ _ ⟨rfl, rfl⟩; refine J.pn ?_
          (try refine wk ?_); (repeat (intro b; (try refine wk ?_)))
          refine J.slot 59 (.bool false) rfl rfl ?_
          (try refine wk ?_); (repeat (intro b; (try refine wk ?_)))
          (refine J.want rfl rfl rfl ?_; refine J.isCallF ?_; refine J.call (H1 := []) Blank rfl rfl rfl rfl ?_)
          rintro _ _ ⟨rfl, rfl⟩; refine J.pn ?_
          (try refine wk ?_); (repeat (intro b; (try refine wk ?_)))
          refine J.slot 63 (.bool false) rfl (congrArg Value.bool (by rw [part_zero sec _ (by decide)]; simp)) ?_
          (try refine wk ?_); (repeat (intro b; (try refine wk ?_)))
          refine J.pick [0, 3, 6, 7, 8, 46] rfl ?_
          first | exact J.roundT (some (2, lv, Hl, bv, Hb)) ⟨by omega, by omega, hl, hb⟩ (by show 4 - 2 < 4 - 1; omega) | exact J.roundT (some (3, lv, Hl, bv, Hb)) ⟨by omega, by omega, hl, hb⟩ (by show 4 - 3 < 4 - 2; omega) | exact J.roundT (some (4, lv, Hl, bv, Hb)) ⟨by omega, by omega, hl, hb⟩ (by show 4 - 4 < 4 - 3; omega)
      · obtain rfl : k = 4 := by omega
        obtain ⟨pb, cb, rfl⟩ := Sl.slice hb
        (try refine wk ?_); (repeat (intro b; (try refine wk ?_)))
        refine J.cl (PlaceOf lb d N gen x fv) ?_
        rintro _ _ ⟨rfl, rfl⟩; refine J.pn ?_
        (try refine wk ?_); (repeat (intro b; (try refine wk ?_)))
        obtain ⟨b11, rfl⟩ : ∃ q, q = b := ⟨b, rfl⟩
        refine J.any Tryz.mixed [[(b11, .cells x.cells 57 (0, 0))], [(bst, .cells (stOf d N gen sg segs.length cap lb num 0 0 0 0 base last s1 t1 n1 u1 g1).cells 92 (0, 0))]] ?_
        refine J.tk 0 ?_
        refine J.tk 1 ?_
        refine J.tk 2 ?_
        refine J.tk 3 ?_
        refine J.tk 4 ?_
        refine J.tk 5 ?_
        refine J.tk 6 ?_
        refine J.tk 7 ?_
        refine J.tk 8 ?_
        refine J.tk 9 ?_
        refine J.tk 10 ?_
        refine J.tk 11 ?_
        refine J.al ?_
        (try refine wk ?_); (repeat (intro b; (try refine wk ?_)))
        refine J.any Tryz.mixed [[(bst, .cells (stOf d N gen sg segs.length cap lb num 0 0 0 0 base last s1 t1 n1 u1 g1).cells 92 (0, 0))], [(b6, .cells ((sameH x).cells lv) 95 (0, 0))]] ?_
        refine J.tk 0 ?_
        refine J.tk 1 ?_
        refine J.tk 2 ?_
        refine J.tk 3 ?_
        refine J.tk 4 ?_
        refine J.tk 5 ?_
        refine J.on 6 ?_ -- call
        have hent : ∀ e : Ent, e ∈ [(⟨4, 1, 0⟩ : Ent)] → e.Ok := by
          intro e he
          obtain rfl := List.mem_singleton.1 he
          exact ⟨by decide, by decide, by decide, .inr (by decide)⟩
        have hlen1 : (([partBlock (mapL sec) 0] : List ByteArray).length : Int) = 1 := rfl
        have hsz1 : ∀ t, t ∈ [partBlock (mapL sec) 0] → t.size = 256 := by
          intro t ht
          rw [List.mem_singleton.1 ht]
          unfold partBlock
          rw [ByteArray.size_append, put2_size, zeros_size]; simp
        refine J.callT (Append lb d N gen x fv xs Hf hf hxs (by omega) t db S wv wr n ws Hw D hD hwo hw hnn hwr (sameH x) lv 1 [⟨4, 1, 0⟩] Hl hl (by decide) hent (.slice pb 1 cb) [partBlock (mapL sec) 0] Hb (Sl.txts hb (Nat.le_refl 1)) rfl (Nat.le_refl 1) hsz1 x xs (.inl ⟨by rw [hlen1]; omega, rfl, rfl⟩) hseg ⟨hx.1, by rw [hlen1]; omega⟩ hN hS hok (by omega)) ?_
        rintro r1 Hq ⟨sv1, m1', Hs, fv', wv', Hw', hr1, hs1, hf', hw', hH⟩
        have e1 : wr + (([partBlock (mapL sec) 0] : List ByteArray).length : Int) = wr + 1 := rfl
        have e2 : wr + 1 + 1 = wr + 2 := by omega
        have e3 : (1 : Int) + (([partBlock (mapL sec) 0] : List ByteArray).length : Int) = 2 := rfl
        rw [e1] at hw' hH
        rw [e2, e3] at hH
        subst hr1; subst hH
        refine J.pn ?_
        refine J.hd ?_
        refine J.tk 7 ?_
        refine J.tk 8 ?_
        refine J.tk 9 ?_
        refine J.tk 10 ?_
        refine J.tk 11 ?_
        refine J.al ?_
        have hs2 : Sl 3 1 sv1 m1' [i64 (secM x)] Hs := by
          have e : 48 + 32 * x.seg + x.pos + 1 + ((0 : Nat) : Int) = secM x := by unfold secM; omega
          rw [← e]; exact hs1
        rcases hs2 with ⟨_, _, h2, _⟩ | ⟨sb1, scap1, srest1, rfl, rfl, hl1, _, _, _⟩
        · cases h2
        obtain rfl : m1' = 1 := by simp at hl1; omega
        rcases hl with ⟨_, h2, _, _⟩ | ⟨eb, ecap, erest, rfl, rfl, _, _, _, _⟩
        · cases h2
        (try refine wk ?_); (repeat (intro b; (try refine wk ?_)))
        refine J.pick [0, 6, 7, 132, 133, 134] rfl ?_
        refine J.loopT (α := Bool) (fun z => [(0, ptr bst 0), (6, ptr b6 0), (7, ptr b7 0), (132, slc sb1 0 1 scap1), (133, i64 (1 : Nat)), (134, match z with | false => i64 0 | true => i64 1)])
          (fun z => match z with | false => [[(sb1, .cells ([i64 (secM x)] ++ srest1) 3 (0, 0))], [(eb, .cells (ecells [⟨4, 1, 0⟩] ++ erest) 131 (0, 0))], [(b6, .cells ((sameH x).cells (slc eb 0 1 ecap)) 95 (0, 0))], [(b7, .cells [i64 0, i64 0, i64 0, i64 0] 55 (0, 0))], [(bst, .cells (stOf d N gen sg segs.length cap lb num 0 0 0 0 base last s1 t1 n1 u1 g1).cells 92 (0, 0))], [(lb, .cells (lcell d N gen (x.behind (sameH x) 2) fv') 190 (0, 0))], [(d, .cells (dcell t db S wv' (wr + 2)) 114 (0, 0))], [(db, .cells (dcells (flush D (ws ++ pwt (48 + 32 * x.seg + x.pos) wr [partBlock (mapL sec) 0]))) 137 (0, 0))], Hw', Hf, [(base, .map [e0] bc)], [(q, .cells (stcells y sec am im) 108 (0, 0))], [(sg, .cells (ints segs ++ rest) 3 (0, 0))], [(last, .map le lc)], [(am, .map [] 0)], [(im, .map [] 0)], [(s1, .map [] 0)], [(t1, .map [] 0)], [(n1, .map [] 0)], [(u1, .map [] 0)], [(g1, .map [] 0)]] | true => [[(sb1, .cells ([i64 (secM x)] ++ srest1) 3 (0, 0))], [(eb, .cells (ecells [⟨4, 1, 0⟩] ++ erest) 131 (0, 0))], [(b6, .cells ((sameH x).cells (slc eb 0 1 ecap)) 95 (0, 0))], [(b7, .cells [i64 (secM x), i64 0, i64 0, i64 0] 55 (0, 0))], [(bst, .cells (stOf d N gen sg segs.length cap lb num 0 0 0 0 base last s1 t1 n1 u1 g1).cells 92 (0, 0))], [(lb, .cells (lcell d N gen (x.behind (sameH x) 2) fv') 190 (0, 0))], [(d, .cells (dcell t db S wv' (wr + 2)) 114 (0, 0))], [(db, .cells (dcells (flush D (ws ++ pwt (48 + 32 * x.seg + x.pos) wr [partBlock (mapL sec) 0]))) 137 (0, 0))], Hw', Hf, [(base, .map [e0] bc)], [(q, .cells (stcells y sec am im) 108 (0, 0))], [(sg, .cells (ints segs ++ rest) 3 (0, 0))], [(last, .map le lc)], [(am, .map [] 0)], [(im, .map [] 0)], [(s1, .map [] 0)], [(t1, .map [] 0)], [(n1, .map [] 0)], [(u1, .map [] 0)], [(g1, .map [] 0)]]) (fun _ => True) (fun z => match z with | false => 1 | true => 0) false trivial ?_
        have hlt01 : (0 : Int) < ((1 : Nat) : Int) := by omega
        have hr01 : (0 : Int) ≤ 0 ∧ (0 : Int) < ((1 : Nat) : Int) := by omega
        have hsq : (x.behind (sameH x) 2).seq = x.seq + 1 := rfl
        have hge11 : ¬ (1 : Int) < ((1 : Nat) : Int) := by omega
        rintro (_ | _) _
        · skip
          (try refine wk ?_); (repeat (intro b; (try refine wk ?_)))
          refine J.slot 144 (i64 0) rfl rfl ?_
          (try refine wk ?_); (repeat (intro b; (try refine wk ?_)))
          refine J.pick [0, 6, 7, 132, 133, 134] rfl ?_
          exact J.roundT true trivial (by show 0 < 1; omega)
        · skip
          (try refine wk ?_); (repeat (intro b; (try refine wk ?_)))
          refine J.cl (PlaceOf lb d N gen (x.behind (sameH x) 2) fv') ?_
          rintro _ _ ⟨rfl, rfl⟩; refine J.pn ?_
          (try refine wk ?_); (repeat (intro b; (try refine wk ?_)))
          obtain ⟨b16, rfl⟩ : ∃ q, q = b := ⟨b, rfl⟩
          refine J.any Tryz.mixed [[(bst, .cells (stOf d N gen sg segs.length cap lb num 0 0 0 0 base last s1 t1 n1 u1 g1).cells 92 (0, 0))], [(b16, .cells (x.behind (sameH x) 2).cells 57 (0, 0))]] ?_
          refine J.tk 0 ?_
          refine J.tk 1 ?_
          refine J.tk 2 ?_
          refine J.tk 3 ?_
          refine J.tk 4 ?_
          refine J.tk 5 ?_
          refine J.tk 6 ?_
          refine J.tk 7 ?_
          refine J.tk 8 ?_
          refine J.on 9 ?_ -- mapUpdate
          refine J.slot 161 (i64 x.seq) rfl (congrArg i64 (by show x.seq + 1 - 1 = x.seq; omega)) ?_
          refine J.fr [[(last, .map le lc)]] ?_
          refine J.isMapUpdate ?_; refine J.mapUpdate (enc := ki) (encV := ki) (m := ll) (k := x.seg) (v := x.seq) 0 keyI hlm rfl rfl rfl rfl rfl rfl (fun _ _ => rfl) ?_
          intro le' lc' hl'
          refine J.nm ?_
          refine J.hd ?_
          refine J.al ?_
          (try refine wk ?_); (repeat (intro b; (try refine wk ?_)))
          have hsec2 : segOf (secM x) = x.seg := by unfold segOf secM; omega
          have hN2 : 8 ≤ (N : Int) ∧ (N : Int) ≤ 500 := by omega
          refine J.cl (SaveS bst sg cap lb d N hN gen hgen num 0 0 0 0 (by omega) base last (.map (some s1)) (.map (some t1)) (.map (some n1)) (.map (some u1)) (.map (some g1)) segs rest [[(base, .map [e0] bc)], [(q, .cells (stcells y sec am im) 108 (0, 0))], [(am, .map [] 0)], [(im, .map [] 0)]] (by omega) [(segOf sec, 1)] (x.behind (sameH x) 2) fv' (secM x) 0 0 0 t db S wv' (wr + 2) 1 _ _ Hw' (hD.flush _ _ ?_) (by omega) (by omega) ?_ hw' (by omega) (by omega) hok2 (fun lg num m0 m1 m2 m3 => LivesAre1 bst q am im 0 0 _ sg ⟨d, N, gen, slc sg 0 segs.length cap, lg, num, m0, m1, m2, m3, base, last, _, _, _, _, _⟩ N hN rfl y sec hsec [e0] bc hbm []) ?_) ?_
          · intro z hz
            rcases List.mem_append.1 hz with h | h
            · exact hwo z h
            · simp [pwt] at h
              subst h
              exact ⟨by show (0 : Int) ≤ 48 + 32 * x.seg + x.pos + 1; omega, by show 48 + 32 * x.seg + x.pos + 1 < (S : Int); omega, hsz1 _ (List.mem_singleton.2 rfl)⟩
          · intro z hz
            rw [List.mem_singleton.1 hz]
            exact ⟨by show (0 : Int) ≤ 48 + 32 * x.seg + x.pos; omega, by show 48 + 32 * x.seg + x.pos < (S : Int); omega, headBlock_size _ _ _ (by decide)⟩
          · intro z hz
            have hz2 := (List.mem_filter.1 hz).2
            simp only [emptyB, Bool.and_eq_true, decide_eq_true_eq] at hz2
            have hz3 : z ≠ x.seg := hz2.1.2
            have h0 : notIn N 0 z := ⟨by omega, by omega, fun h => by omega⟩
            exact ⟨⟨by unfold secM; omega, by unfold secM; omega, fun h => hz3 (by rw [← h.2.2, hsec2])⟩, h0, h0, h0⟩
          rintro _ _ ⟨lb', fv2, Hr2, rfl, hs3, rfl⟩; refine J.pn ?_
          (try refine wk ?_); (repeat (intro b; (try refine wk ?_)))
          have ew : wr + 2 + 1 = wr + 3 := by omega
          rw [ew]
          refine J.doneT (res1 rfl rfl) ⟨lb', fv2, Hr2, le', lc', rfl, hl', hs3, rfl⟩
  · skip
    refine J.any Tryz.mixed [[(bst, .cells (stOf d N gen sg segs.length cap lb num 0 0 0 0 base last s1 t1 n1 u1 g1).cells 92 (0, 0))]] ?_
    refine J.tk 0 ?_
    refine J.tk 2 ?_
    refine J.tk 3 ?_
    refine J.tk 4 ?_
    refine J.tk 5 ?_
    -- READY: [(1, 'call', None, 'file.go:358'), (6, 'alloc', None, 'file.go:358'), (7, 'alloc', None, 'file.go:358')]
    refine J.each [1, 6, 7] (by kernel_rfl) (by simp) (fun i hi => ?_)
    simp only [List.mem_cons, List.not_mem_nil, or_false] at hi
    rcases hi with rfl | rfl | rfl
    · skip
      refine J.wpOp rfl rfl ?_
      refine J.isCallF ?_; refine J.call (H1 := [_, _]) (Same bst lb d (stOf d N gen sg segs.length cap lb num 0 0 0 0 base last s1 t1 n1 u1 g1) rfl N gen x fv) rfl rfl rfl rfl ?_
      rintro _ _ ⟨rfl, rfl⟩; refine J.pn ?_
      refine J.hd ?_
      -- READY: [(6, 'alloc', None, 'file.go:358'), (7, 'alloc', None, 'file.go:358')]
      refine J.each [6, 7] (by kernel_rfl) (by simp) (fun i hi => ?_)
      simp only [List.mem_cons, List.not_mem_nil, or_false] at hi
      rcases hi with rfl | rfl
      · skip
        refine J.wpOp rfl rfl ?_
        refine J.isAlloc ?_; refine J.alloc rfl rfl rfl ?_; intro b6
        refine J.hd ?_
        refine J.on 7 ?_ -- alloc
        refine J.isAlloc ?_; refine J.alloc rfl rfl rfl ?_; intro b7
        refine J.hd ?_
        refine J.on 8 ?_ -- store
        (refine wo ?_; (try intro b))
        refine J.hd ?_
        refine J.on 9 ?_ -- store
        (refine wo ?_; (try intro b))
        refine J.hd ?_
        refine J.al ?_
        refine J.thenN ?_
        refine J.pick [0, 3, 6, 7] rfl ?_
        refine J.or [1, 0, 2, 3, 4, 5, 6, 7, 8, 9, 10, 11, 12, 13, 14, 15, 16, 17, 18, 19] 20 ?_
        exact J.mid (b6, b7) trivial (fun _ _ h => h) rfl
      · skip
        refine J.wpOp rfl rfl ?_
        refine J.isAlloc ?_; refine J.alloc rfl rfl rfl ?_; intro b7
        refine J.hd ?_
        refine J.on 6 ?_ -- alloc
        refine J.isAlloc ?_; refine J.alloc rfl rfl rfl ?_; intro b6
        refine J.hd ?_
        refine J.on 8 ?_ -- store
        (refine wo ?_; (try intro b))
        refine J.hd ?_
        refine J.on 9 ?_ -- store
        (refine wo ?_; (try intro b))
        refine J.hd ?_
        refine J.al ?_
        refine J.thenN ?_
        refine J.pick [0, 3, 6, 7] rfl ?_
        exact J.mid (b6, b7) trivial (fun _ _ h => h) rfl
    · skip
      refine J.wpOp rfl rfl ?_
      refine J.isAlloc ?_; refine J.alloc rfl rfl rfl ?_; intro b6
      refine J.hd ?_
      -- READY: [(1, 'call', None, 'file.go:358'), (7, 'alloc', None, 'file.go:358')]
      refine J.each [1, 7] (by kernel_rfl) (by simp) (fun i hi => ?_)
      simp only [List.mem_cons, List.not_mem_nil, or_false] at hi
      rcases hi with rfl | rfl
      · skip
        refine J.wpOp rfl rfl ?_
        refine J.or [1, 2, 0, 3, 4, 5, 6, 7, 8, 9, 10, 11, 12, 13, 14, 15, 16, 17, 18] 19 ?_
        refine J.isCallF ?_; refine J.call (H1 := [_, _]) (Same bst lb d (stOf d N gen sg segs.length cap lb num 0 0 0 0 base last s1 t1 n1 u1 g1) rfl N gen x fv) rfl rfl rfl rfl ?_
        rintro _ _ ⟨rfl, rfl⟩; refine J.pn ?_
        refine J.hd ?_
        refine J.on 7 ?_ -- alloc
        refine J.isAlloc ?_; refine J.alloc rfl rfl rfl ?_; intro b7
        refine J.hd ?_
        refine J.on 8 ?_ -- store
        (refine wo ?_; (try intro b))
        refine J.hd ?_
        refine J.on 9 ?_ -- store
        (refine wo ?_; (try intro b))
        refine J.hd ?_
        refine J.al ?_
        refine J.thenN ?_
        refine J.pick [0, 3, 6, 7] rfl ?_
        refine J.or [3, 0, 1, 2, 4, 5, 6, 7, 8, 9, 10, 11, 12, 13, 14, 15, 16, 17, 18, 19] 20 ?_
        exact J.mid (b6, b7) trivial (fun _ _ h => h) rfl
      · skip
        refine J.wpOp rfl rfl ?_
        refine J.isAlloc ?_; refine J.alloc rfl rfl rfl ?_; intro b7
        refine J.hd ?_
        refine J.on 1 ?_ -- call
        refine J.or [2, 3, 0, 1, 4, 5, 6, 7, 8, 9, 10, 11, 12, 13, 14, 15, 16, 17, 18, 19] 20 ?_
        refine J.isCallF ?_; refine J.call (H1 := [_, _]) (Same bst lb d (stOf d N gen sg segs.length cap lb num 0 0 0 0 base last s1 t1 n1 u1 g1) rfl N gen x fv) rfl rfl rfl rfl ?_
        rintro _ _ ⟨rfl, rfl⟩; refine J.pn ?_
        refine J.hd ?_
        refine J.on 8 ?_ -- store
        (refine wo ?_; (try intro b))
        refine J.hd ?_
        refine J.on 9 ?_ -- store
        (refine wo ?_; (try intro b))
        refine J.hd ?_
        refine J.al ?_
        refine J.thenN ?_
        refine J.pick [0, 3, 6, 7] rfl ?_
        refine J.or [3, 2, 0, 1, 4, 5, 6, 7, 8, 9, 10, 11, 12, 13, 14, 15, 16, 17, 18, 19] 20 ?_
        exact J.mid (b6, b7) trivial (fun _ _ h => h) rfl
    · skip
      refine J.wpOp rfl rfl ?_
      refine J.isAlloc ?_; refine J.alloc rfl rfl rfl ?_; intro b7
      refine J.hd ?_
      -- READY: [(1, 'call', None, 'file.go:358'), (6, 'alloc', None, 'file.go:358')]
      refine J.each [1, 6] (by kernel_rfl) (by simp) (fun i hi => ?_)
      simp only [List.mem_cons, List.not_mem_nil, or_false] at hi
      rcases hi with rfl | rfl
      · skip
        refine J.wpOp rfl rfl ?_
        refine J.or [1, 2, 0, 3, 4, 5, 6, 7, 8, 9, 10, 11, 12, 13, 14, 15, 16, 17, 18] 19 ?_
        refine J.isCallF ?_; refine J.call (H1 := [_, _]) (Same bst lb d (stOf d N gen sg segs.length cap lb num 0 0 0 0 base last s1 t1 n1 u1 g1) rfl N gen x fv) rfl rfl rfl rfl ?_
        rintro _ _ ⟨rfl, rfl⟩; refine J.pn ?_
        refine J.hd ?_
        refine J.on 6 ?_ -- alloc
        refine J.isAlloc ?_; refine J.alloc rfl rfl rfl ?_; intro b6
        refine J.hd ?_
        refine J.on 8 ?_ -- store
        (refine wo ?_; (try intro b))
        refine J.hd ?_
        refine J.on 9 ?_ -- store
        (refine wo ?_; (try intro b))
        refine J.hd ?_
        refine J.al ?_
        refine J.thenN ?_
        refine J.pick [0, 3, 6, 7] rfl ?_
        refine J.or [0, 3, 1, 2, 4, 5, 6, 7, 8, 9, 10, 11, 12, 13, 14, 15, 16, 17, 18, 19] 20 ?_
        exact J.mid (b6, b7) trivial (fun _ _ h => h) rfl
      · skip
        refine J.wpOp rfl rfl ?_
        refine J.isAlloc ?_; refine J.alloc rfl rfl rfl ?_; intro b6
        refine J.hd ?_
        refine J.on 1 ?_ -- call
        refine J.or [2, 3, 0, 1, 4, 5, 6, 7, 8, 9, 10, 11, 12, 13, 14, 15, 16, 17, 18, 19] 20 ?_
        refine J.isCallF ?_; refine J.call (H1 := [_, _]) (Same bst lb d (stOf d N gen sg segs.length cap lb num 0 0 0 0 base last s1 t1 n1 u1 g1) rfl N gen x fv) rfl rfl rfl rfl ?_
        rintro _ _ ⟨rfl, rfl⟩; refine J.pn ?_
        refine J.hd ?_
        refine J.on 8 ?_ -- store
        (refine wo ?_; (try intro b))
        refine J.hd ?_
        refine J.on 9 ?_ -- store
        (refine wo ?_; (try intro b))
        refine J.hd ?_
        refine J.al ?_
        refine J.thenN ?_
        refine J.pick [0, 3, 6, 7] rfl ?_
        refine J.or [2, 3, 0, 1, 4, 5, 6, 7, 8, 9, 10, 11, 12, 13, 14, 15, 16, 17, 18, 19] 20 ?_
        exact J.mid (b6, b7) trivial (fun _ _ h => h) rfl
end Go.Proofs.YF
