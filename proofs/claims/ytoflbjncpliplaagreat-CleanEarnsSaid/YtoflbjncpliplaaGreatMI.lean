/- Part MI of the walks that a statement of this seat is proved by: laws of memory, then the functions one by one. -/
import Derived.Test.YtoflbjncpliplaaGreatMH
namespace Go.Proofs.YF
open Go YE
attribute [local irreducible] CW LW OW XW AW PW HW RW AK HK AP HP DX CI LI OI BW RE MW J Gives
set_option maxHeartbeats 1000000
set_option maxRecDepth 20000
set_option maxHeartbeats 4000000

theorem place_in (n m : Int) (hm : 0 < m) : 0 ≤ place n m ∧ place n m < m := by
  unfold place
  have h1 := Int.tmod_lt_of_pos n hm
  have h2 : -m < n.tmod m := by
    have := Int.tmod_lt_of_pos (-n) hm
    rw [Int.neg_tmod] at this; omega
  split <;> omega
theorem hen8 : 4 + 8 / 8 ≤ (emptyL [] 0 0 (rng 8)).length := by decide
theorem Awake18 : Sp Tryz.prog 26 #[] [] (Is (.bool true)) := by
  refine Sp.intro Tryz.func26 rfl rfl rfl fun w K => ?_
  (try refine wk ?_); (repeat (intro b; (try refine wk ?_)))
  refine J.cl (Make1 8 (by omega) hen8) ?_
  rintro _ _ ⟨bst, s, t, nb, u, g, sg, cap', base, last, lb, q, am, im, be, bc, le, lc, fv, Hr, rest', d, db, gb, wrc, D, rest, cap, rfl, hbm, hlm, hfv, rfl⟩; refine J.pn ?_
  have hOne := OneQ bst s t nb u g q am im be bc nd1 (sec0 0 1) (stOf d (8 : Nat) 3 sg (rng 8).length cap' lb (0 + 1) (secM (xF 0 1)) 0 0 0 base last s t nb u g) rfl rfl hbm
  have hHas := HasQ1 bst s t nb u g q am im be bc nd1 (sec0 0 1) (stOf d (8 : Nat) 3 sg (rng 8).length cap' lb (0 + 1) (secM (xF 0 1)) 0 0 0 base last s t nb u g) rfl hbm
  (try refine wk ?_); (repeat (intro b; (try refine wk ?_)))
  (refine J.want rfl rfl rfl ?_; refine J.callT (Nodes bst _ hOne) ?_)
  rintro v1 _ ⟨Hr1, hv1, rfl⟩
  obtain ⟨p1, c1, rfl⟩ := Sl.slice hv1
  refine J.pn ?_
  (try refine wk ?_); (repeat (intro b; (try refine wk ?_)))
  (refine J.want rfl rfl rfl ?_; refine J.callT (Live bst _ hOne hHas) ?_)
  rintro _ _ ⟨rfl, rfl⟩; refine J.pn ?_
  (try refine wk ?_); (repeat (intro b; (try refine wk ?_)))
  (refine J.want rfl rfl rfl ?_; refine J.callT (First bst _ hOne) ?_)
  rintro _ _ ⟨rfl, rfl⟩; refine J.pn ?_
  (try refine wk ?_); (repeat (intro b; (try refine wk ?_)))
  have hSl := SlotQ bst s t nb u g d (8 : Nat) 3 (slc sg 0 (rng 8).length cap') (0 + 1) (secM (xF 0 1)) 0 0 0 base last lb d (8 : Nat) (cpS (xF 0 1) 0) fv
  (refine J.want rfl rfl rfl ?_; refine J.callT hSl ?_)
  rintro _ _ ⟨rfl, rfl⟩; refine J.pn ?_
  (try refine wk ?_); (repeat (intro b; (try refine wk ?_)))
  (refine J.want rfl rfl rfl ?_; refine J.callT hSl ?_)
  rintro _ _ ⟨rfl, rfl⟩; refine J.pn ?_
  (try refine wk ?_); (repeat (intro b; (try refine wk ?_)))
  refine J.doneT (H' := []) (res1 rfl rfl) ⟨rfl, rfl⟩

theorem FileNone (n i how : Int) (hn : -9223372036854775808 ≤ n ∧ n ≤ 9223372036854775807) (hi : -9223372036854775808 ≤ i ∧ i ≤ 9223372036854775807) : Sp Tryz.prog 5 #[i64 n, i64 i, i64 how] [] (Is (.bool true)) := by
  refine Sp.intro Tryz.func5 rfl rfl rfl fun w K => ?_
  (try refine wk ?_); (repeat (intro b; (try refine wk ?_)))
  refine J.cl (Make1 8 (by omega) hen8) ?_
  rintro _ _ ⟨bst, s, t, nb, u, g, sg, cap', base, last, lb, q, am, im, be, bc, le, lc, fv, Hr, rest', d, db, gb, wrc, D, rest, cap, rfl, hbm, hlm, hfv, rfl⟩; refine J.pn ?_
  have hOne := OneQ bst s t nb u g q am im be bc nd1 (sec0 0 1) (stOf d (8 : Nat) 3 sg (rng 8).length cap' lb (0 + 1) (secM (xF 0 1)) 0 0 0 base last s t nb u g) rfl rfl hbm
  have hHas := HasQ1 bst s t nb u g q am im be bc nd1 (sec0 0 1) (stOf d (8 : Nat) 3 sg (rng 8).length cap' lb (0 + 1) (secM (xF 0 1)) 0 0 0 base last s t nb u g) rfl hbm
  (try refine wk ?_); (repeat (intro b; (try refine wk ?_)))
  refine J.cl (Place n 1000 (by omega) (by omega)) ?_
  rintro _ _ ⟨rfl, rfl⟩; refine J.pn ?_
  have hp1 : 0 ≤ place n 1000 ∧ place n 1000 < 1000 := place_in n 1000 (by omega)
  have hp2 : 0 ≤ place i 1000 ∧ place i 1000 < 1000 := place_in i 1000 (by omega)
  generalize place n 1000 = p1 at *
  (try refine wk ?_); (repeat (intro b; (try refine wk ?_)))
  refine J.cl (Place i 1000 (by omega) (by omega)) ?_
  rintro _ _ ⟨rfl, rfl⟩; refine J.pn ?_
  generalize place i 1000 = p2 at *
  (try refine wk ?_); (repeat (intro b; (try refine wk ?_)))
  refine J.cl Zero0 ?_
  rintro _ _ ⟨rfl, rfl⟩; refine J.pn ?_
  (try refine wk ?_); (repeat (intro b; (try refine wk ?_)))
  have hk1 : (2 + p1 : Int) ≠ 1 := by omega
  refine J.cl (BlockQ bst s t nb u g q am im be bc nd1 (sec0 0 1) d (8 : Nat) 3 (slc sg 0 (rng 8).length cap') (ptr lb 0) (0 + 1) (secM (xF 0 1)) 0 0 0 base last hbm (2 + p1) 0) ?_
  rintro _ _ ⟨rfl, rfl⟩; refine J.pn ?_
  (try refine wk ?_); (repeat (intro b; (try refine wk ?_)))
  refine J.cl (BlockQ bst s t nb u g q am im be bc nd1 (sec0 0 1) d (8 : Nat) 3 (slc sg 0 (rng 8).length cap') (ptr lb 0) (0 + 1) (secM (xF 0 1)) 0 0 0 base last hbm 1 (588 + p2)) ?_
  rintro _ _ ⟨rfl, rfl⟩; refine J.pn ?_
  (try refine wk ?_); (repeat (intro b; (try refine wk ?_)))
  refine J.cl (NodeQ bst s t nb u g q am im be bc nd1 (sec0 0 1) (stOf d (8 : Nat) 3 sg (rng 8).length cap' lb (0 + 1) (secM (xF 0 1)) 0 0 0 base last s t nb u g) rfl hbm (2 + p1) hk1) ?_
  rintro _ _ ⟨rfl, rfl⟩; refine J.pn ?_
  refine J.slot 49 (.tuple #[zeroV, .bool false]) rfl rfl ?_
  (try refine wk ?_); (repeat (intro b; (try refine wk ?_)))
  refine J.op rfl ?_; refine J.isBuild ?_; refine J.give (Gives.build (vs := [(0, i64 3), (1, i64 1), (2, i64 1)]) (cells := #[i64 3, i64 1, i64 1, i64 0, i64 0, i64 0, i64 0, i64 0, i64 0, i64 0, i64 0, i64 0, i64 0, i64 0, i64 0, i64 0, i64 0, i64 0, i64 0]) rfl rfl rfl) rfl rfl ?_
  (try refine wk ?_); (repeat (intro b; (try refine wk ?_)))
  obtain ⟨b19, rfl⟩ : ∃ q, q = b := ⟨b, rfl⟩
  refine J.cl (Place how 5 (by omega) (by omega)) ?_
  rintro _ _ ⟨rfl, rfl⟩; refine J.pn ?_
  have hp3 : 0 ≤ place how 5 ∧ place how 5 < 5 := place_in how 5 (by omega)
  generalize place how 5 = p3 at *
  refine J.nil ?_; refine J.thenN ?_
  refine J.cutTE (α := Nd) (fun _ => [(8, ptr bst 0), (10, i64 (2 + p1)), (11, i64 (588 + p2)), (12, .string (zeros 256)), (13, .string (zeros 256)), (14, .bool false), (15, .string (zeros 256)), (16, .bool false), (18, .bool false), (19, ptr b19 0)])
    (fun z => [(b19, .cells (bareC z) 31 (0, 0))] :: mkH 8 bst s t nb u g sg cap' base last lb q am im be bc le lc fv Hr rest' d db gb wrc D rest) (fun z => z.bare.okB = false) (fun z hz => ?_) ?_
  · have hzz : ((zeros 256).toList == (zeros 256).toList) = true := beq_self_eq_true _
    (try refine wk ?_); (repeat (intro b; (try refine wk ?_)))
    (refine J.want rfl rfl rfl ?_; refine J.callT (HasQ bst s t nb u g q am im be bc nd1 (sec0 0 1) (stOf d (8 : Nat) 3 sg (rng 8).length cap' lb (0 + 1) (secM (xF 0 1)) 0 0 0 base last s t nb u g) rfl hbm (2 + p1) hk1) ?_)
    rintro _ _ ⟨rfl, rfl⟩; refine J.pn ?_
    (try refine wk ?_); (repeat (intro b; (try refine wk ?_)))
    (refine J.want rfl rfl rfl ?_; refine J.callT (SetBlockQ bst s t nb u g q am im be bc nd1 (sec0 0 1) d (8 : Nat) 3 (slc sg 0 (rng 8).length cap') (ptr lb 0) (0 + 1) (secM (xF 0 1)) 0 0 0 base last hbm (2 + p1) 0 (zeros 256) (.inl hk1) (by rw [zeros_size]; omega)) ?_)
    rintro _ _ ⟨rfl, rfl⟩; refine J.pn ?_
    (try refine wk ?_); (repeat (intro b; (try refine wk ?_)))
    (refine J.want rfl rfl rfl ?_; refine J.callT (SetBlockQ bst s t nb u g q am im be bc nd1 (sec0 0 1) d (8 : Nat) 3 (slc sg 0 (rng 8).length cap') (ptr lb 0) (0 + 1) (secM (xF 0 1)) 0 0 0 base last hbm 1 (588 + p2) (zeros 256) (.inr (.inr (.inl (by omega)))) (by rw [zeros_size]; omega)) ?_)
    rintro _ _ ⟨rfl, rfl⟩; refine J.pn ?_
    (try refine wk ?_); (repeat (intro b; (try refine wk ?_)))
    (refine J.want rfl rfl rfl ?_; refine J.callT (SetBlockQ bst s t nb u g q am im be bc nd1 (sec0 0 1) d (8 : Nat) 3 (slc sg 0 (rng 8).length cap') (ptr lb 0) (0 + 1) (secM (xF 0 1)) 0 0 0 base last hbm 1 (-1) (zeros 256) (.inr (.inl (by omega))) (by rw [zeros_size]; omega)) ?_)
    rintro _ _ ⟨rfl, rfl⟩; refine J.pn ?_
    (try refine wk ?_); (repeat (intro b; (try refine wk ?_)))
    (refine J.want rfl rfl rfl ?_; refine J.callT (SetBlockQ bst s t nb u g q am im be bc nd1 (sec0 0 1) d (8 : Nat) 3 (slc sg 0 (rng 8).length cap') (ptr lb 0) (0 + 1) (secM (xF 0 1)) 0 0 0 base last hbm 1 0 ⟨#[115, 104, 111, 114, 116]⟩ (.inr (.inr (.inr (by decide)))) (by decide)) ?_)
    rintro _ _ ⟨rfl, rfl⟩; refine J.pn ?_
    (try refine wk ?_); (repeat (intro b; (try refine wk ?_)))
    (refine J.want rfl rfl rfl ?_; refine J.callT (DropQ bst s t nb u g q am im be bc nd1 (sec0 0 1) d (8 : Nat) 3 (slc sg 0 (rng 8).length cap') (ptr lb 0) (0 + 1) (secM (xF 0 1)) 0 0 0 base last hbm (2 + p1) 0 hk1) ?_)
    rintro _ _ ⟨rfl, rfl⟩; refine J.pn ?_
    (try refine wk ?_); (repeat (intro b; (try refine wk ?_)))
    (refine J.want rfl rfl rfl ?_; refine J.callT (GoneQ bst s t nb u g q am im be bc nd1 (sec0 0 1) d (8 : Nat) 3 (slc sg 0 (rng 8).length cap') (ptr lb 0) (0 + 1) (secM (xF 0 1)) 0 0 0 base last hbm (2 + p1) hk1) ?_)
    rintro _ _ ⟨rfl, rfl⟩; refine J.pn ?_
    (try refine wk ?_); (repeat (intro b; (try refine wk ?_)))
    (refine J.want rfl rfl rfl ?_; refine J.callT (SetNodeBad bst (stOf d (8 : Nat) 3 sg (rng 8).length cap' lb (0 + 1) (secM (xF 0 1)) 0 0 0 base last s t nb u g) z.bare rfl hz) ?_)
    rintro _ _ ⟨rfl, rfl⟩; refine J.pn ?_
    (try refine wk ?_); (repeat (intro b; (try refine wk ?_)))
    (refine J.want rfl rfl rfl ?_; refine J.callT (Nodes bst _ hOne) ?_)
    rintro v1 _ ⟨Hr1, hv1, rfl⟩
    obtain ⟨pp1, c1, rfl⟩ := Sl.slice hv1
    refine J.pn ?_
    (try refine wk ?_); (repeat (intro b; (try refine wk ?_)))
    (refine J.want rfl rfl rfl ?_; refine J.callT (Live bst _ hOne hHas) ?_)
    rintro _ _ ⟨rfl, rfl⟩; refine J.pn ?_
    (try refine wk ?_); (repeat (intro b; (try refine wk ?_)))
    (refine J.want rfl rfl rfl ?_; refine J.callT Awake18 ?_)
    rintro _ _ ⟨rfl, rfl⟩; refine J.pn ?_
    (try refine wk ?_); (repeat (intro b; (try refine wk ?_)))
    refine J.doneT (H' := []) (res1 rfl rfl) ⟨rfl, rfl⟩
  · have hc : p3 = 0 ∨ p3 = 1 ∨ p3 = 2 ∨ p3 = 3 ∨ p3 = 4 := by omega
    rcases hc with rfl | rfl | rfl | rfl | rfl
    · (try refine wk ?_); (repeat (intro b; (try refine wk ?_)))
      refine J.pick [8, 10, 11, 12, 13, 14, 15, 16, 18, 19] rfl ?_
      exact J.midT ⟨3, 3, 1, 0, 0, List.replicate 14 0⟩ (by decide)
    · (try refine wk ?_); (repeat (intro b; (try refine wk ?_)))
      refine J.pick [8, 10, 11, 12, 13, 14, 15, 16, 18, 19] rfl ?_
      exact J.midT ⟨0, 1, 1, 0, 0, List.replicate 14 0⟩ (by decide)
    · (try refine wk ?_); (repeat (intro b; (try refine wk ?_)))
      refine J.pick [8, 10, 11, 12, 13, 14, 15, 16, 18, 19] rfl ?_
      exact J.midT ⟨3, 1, 101, 0, 0, List.replicate 14 0⟩ (by decide)
    · (try refine wk ?_); (repeat (intro b; (try refine wk ?_)))
      refine J.pick [8, 10, 11, 12, 13, 14, 15, 16, 18, 19] rfl ?_
      exact J.midT ⟨3, 1, 1, 150529, 0, List.replicate 14 0⟩ (by decide)
    · (try refine wk ?_); (repeat (intro b; (try refine wk ?_)))
      refine J.pick [8, 10, 11, 12, 13, 14, 15, 16, 18, 19] rfl ?_
      exact J.midT ⟨3, 2, 1, 5, 0, List.replicate 14 0⟩ (by decide)
end Go.Proofs.YF
