/- Part MK of the walks that a statement of this seat is proved by: laws of memory, then the functions one by one. -/
import Derived.Test.YtoflbjncpliplaaGreatMJ
namespace Go.Proofs.YF
open Go YE
attribute [local irreducible] CW LW OW XW AW PW HW RW AK HK AP HP DX CI LI OI BW RE MW J Gives
set_option maxHeartbeats 1000000
set_option maxRecDepth 20000
set_option maxHeartbeats 4000000

theorem Make1C (n : Nat) (hn : 8 ≤ n ∧ n ≤ 500) (hen : 4 + n / 8 ≤ (emptyL [] 0 0 (rng n)).length) :
    Sp Tryz.prog 43 #[i64 n] [] (fun v H => ∃ bst s t nb u g sg cap' base last lb q am im be bc le lc fv Hr rest' d db gb wrc D rest cap, v = .tuple #[ptr bst 0, slc gb 0 (rng n).length cap] ∧ (rng n).length ≤ cap ∧ MapOK ki kp [(1, q)] be bc ∧ MapOK ki ki (aset (aset [] (slF 0 1).seg (slF 0 1).seq) (xF 0 1).seg (xF 0 1).seq) le lc ∧ Sl 3 1 fv (emptyL [(segOf (sec0 0 1), 1)] (xF 0 1).seg (xF 0 1).next (rng n)).length (ints (emptyL [(segOf (sec0 0 1), 1)] (xF 0 1).seg (xF 0 1).next (rng n))) Hr ∧
        H = mkH n bst s t nb u g sg cap' base last lb q am im be bc le lc fv Hr rest' d db gb wrc D rest) := by
  refine Sp.intro Tryz.func43 rfl rfl rfl fun w K => ?_
  (try refine wk ?_); (repeat (intro b; (try refine wk ?_)))
  refine J.cl (New (48 + 32 * n) (by omega) (by omega)) ?_
  have hSn : (48 + 32 * (n : Int)).toNat = 48 + 32 * n := by omega
  rintro _ _ ⟨d, db, rfl, rfl⟩; refine J.pn ?_
  rw [hSn]
  (try refine wk ?_); (repeat (intro b; (try refine wk ?_)))
  refine J.pick [0, 2, 3, 4, 5, 6] rfl ?_
  refine J.loop (α := Nat × Value × Heap) (fun z => [(0, i64 n), (2, .pointer none), (3, nils), (4, ptr d 0), (5, z.2.1), (6, i64 z.1)]) (fun z => [z.2.2, [(d, .cells (dcell nilRest db (48 + 32 * n) nils 0) 114 (0, 0))], [(db, .cells (List.replicate (256 * (48 + 32 * n)) (.int .u8 0)) 137 (0, 0))]]) (fun z => z.1 ≤ n ∧ Sl 3 1 z.2.1 z.1 (ints (rng z.1)) z.2.2) (fun z => n - z.1) (0, nils, []) ⟨Nat.zero_le _, by exact Sl.nil 3 1⟩ (fun _ _ h => h) rfl ?_
  rintro ⟨k, v, Hv⟩ ⟨hk, hs⟩
  simp only at hk hs
  by_cases hkn : k < n
  · have hki : (k : Int) < n := by omega
    obtain ⟨vp, vc, rfl⟩ := Sl.slice hs
    (try refine wk ?_); (repeat (intro b; (try refine wk ?_)))
    refine J.op rfl ?_; refine J.isBuildSlice ?_; refine J.buildSl [i64 k] (cs := [i64 k]) rfl rfl rfl rfl rfl (fun v hv => by rw [List.mem_singleton.1 hv]; rfl) rfl rfl rfl ?_
    intro bn
    refine J.front 1 rfl rfl ?_
    refine J.nm ?_
    refine J.op rfl ?_; refine J.isBuiltin ?_; refine J.append (m := 1) (news := [i64 k]) 0 hs rfl rfl rfl rfl rfl (by simp [Value.oneCell']) (by simp) (by simp) ⟨by omega, by have : maxLen = 9223372036854775807 := rfl; omega⟩ rfl ?_
    intro v2 H2 h2
    rw [← List.map_singleton (f := fun x => i64 x), ← List.map_append, ← rng_succ] at h2
    have h1 := h2.one
    (try refine wk ?_); (repeat (intro b; (try refine wk ?_)))
    refine J.pick [0, 2, 3, 4, 5, 6] rfl ?_
    exact J.roundT (k + 1, v2, H2) ⟨hkn, h2⟩ (by show n - (k + 1) < n - k; omega)
  · obtain rfl : k = n := by omega
    rcases hs with ⟨_, hz, _, _⟩ | ⟨gb, cap, rest, rfl, rfl, _, _, hcap, _⟩
    · omega
    obtain ⟨sr, hsr⟩ : ∃ sr, rng k = 0 :: 1 :: sr := by
      obtain ⟨m, rfl⟩ : ∃ m, k = m + 2 := ⟨k - 2, by omega⟩
      exact rng_two m
    have hlen := rng_len k
    (try refine wk ?_); (repeat (intro b; (try refine wk ?_)))
    refine J.cl (GeomOf k (by omega)) ?_
    rintro _ _ ⟨rfl, rfl⟩; refine J.pn ?_
    (try refine wk ?_); (repeat (intro b; (try refine wk ?_)))
    refine J.slot 26 (slc gb 0 (rng k).length cap) rfl (by rw [rng_len]) ?_
    refine J.slot 5 (slc gb 0 (rng k).length cap) rfl (by rw [rng_len]) ?_
    refine J.cl (Found d db k hn 3 (by omega) gb cap 0 1 sr (rng k) hsr rest (by omega) (by omega) (rng_in k) (by rw [rng_len]; exact hen) (48 + 32 * k) rfl) ?_
    rintro _ _ ⟨bst, s, t, nb, u, g, sg, cap', base, last, lb, q, am, im, be, bc, le, lc, fv, Hr, rest', D, wr, rfl, hbm, hlm, hfv, rfl⟩; refine J.pn ?_
    (try refine wk ?_); (repeat (intro b; (try refine wk ?_)))
    refine J.doneT (res2 rfl rfl rfl) ⟨bst, s, t, nb, u, g, sg, cap', base, last, lb, q, am, im, be, bc, le, lc, fv, Hr, rest', d, db, gb, wr, D, rest, cap, rfl, (by omega), hbm, hlm, hfv, rfl⟩
theorem slInts {v : Value} {n : Nat} {xs : List Int} {Hx : Heap} (h : Sl 3 1 v n (ints xs) Hx) (hx : 0 < xs.length) : ∃ b cap rest, v = slc b 0 xs.length cap ∧ Hx = [(b, .cells (ints xs ++ rest) 3 (0, 0))] := by
  have hl := h.len
  simp [ints] at hl
  rcases h with ⟨_, hz, _, _⟩ | ⟨b, cap, rest, rfl, rfl, _, _, _, _⟩
  · omega
  · exact ⟨b, cap, rest, by rw [hl], rfl⟩
theorem hseg0 : (cpS (xF 0 1) 0).seg = 0 := rfl
theorem gbInts (gb n cap : Nat) (rest : List Value) (h : (rng n).length ≤ cap) : Ints (slc gb 0 (rng n).length cap) (rng n) [(gb, .cells (ints (rng n) ++ rest) 3 (0, 0))] := by
  refine .inr ⟨gb, 0, cap, _, _, rfl, rfl, ?_, by simp [ints], h⟩
  have e : (rng n).length = (ints (rng n)).length := by simp [ints]
  rw [List.drop_zero, e]; exact List.take_left
theorem Awake20 : Sp Tryz.prog 44 #[] [] (Is (.bool true)) := by
  refine Sp.intro Tryz.func44 rfl rfl rfl fun w K => ?_
  (try refine wk ?_); (repeat (intro b; (try refine wk ?_)))
  refine J.cl (Make1C 8 (by omega) hen8) ?_
  rintro _ _ ⟨bst, s, t, nb, u, g, sg, cap', base, last, lb, q, am, im, be, bc, le, lc, fv, Hr, rest', d, db, gb, wrc, D, rest, cap, rfl, hcap, hbm, hlm, hfv, rfl⟩; refine J.pn ?_
  (try refine wk ?_); (repeat (intro b; (try refine wk ?_)))
  refine J.cl (GeomOf 8 (by omega)) ?_
  rintro _ _ ⟨rfl, rfl⟩; refine J.pn ?_
  (try refine wk ?_); (repeat (intro b; (try refine wk ?_)))
  refine J.cl (CleanNew bst 8 _ (rng 8) _ (gbInts gb 8 cap rest hcap) (by decide) 5) ?_
  rintro _ _ ⟨cb, rv, m, Hc, rfl, hr, rfl⟩; refine J.pn ?_
  obtain ⟨csb, ccap, crest, rfl, rfl⟩ := slInts hr (by decide)
  (try refine wk ?_); (repeat (intro b; (try refine wk ?_)))
  refine J.cl (StepF cb bst 8 csb ccap crest (cut 5 1000) 0 sg cap' lb d d 8 (by omega) 3 (0 + 1) base last s t nb u g q am im be bc nd1 (rng 8) rest' (by decide) (by decide) (8 : Nat) (cpS (xF 0 1) 0) fv hseg0 hbm le lc hlm) ?_
  rintro _ _ ⟨rfl, rfl⟩; refine J.pn ?_
  (try refine wk ?_); (repeat (intro b; (try refine wk ?_)))
  refine J.cl (Earn cb bst 8 (slc csb 0 (rng 8).length ccap) (cut 5 1000) 0 3 (by decide) (by decide)) ?_
  rintro _ _ rfl; refine J.put rfl ?_; refine J.nm ?_
  (try refine wk ?_); (repeat (intro b; (try refine wk ?_)))
  (refine J.want rfl rfl rfl ?_; refine J.callT (Left cb bst 8 (slc csb 0 (rng 8).length ccap) (cut 5 1000) (min (0 + cut 3 1000 * cut 5 1000) 1000)) ?_)
  rintro _ _ ⟨rfl, rfl⟩; refine J.pn ?_
  refine J.slot 31 (i64 15) rfl rfl ?_
  (try refine wk ?_); (repeat (intro b; (try refine wk ?_)))
  refine J.doneT (H' := []) (res1 rfl rfl) ⟨rfl, rfl⟩
theorem hen10 : 4 + 10 / 8 ≤ (emptyL [] 0 0 (rng 10)).length := by decide
theorem CleanNone (seg earned : Int) (hs : -9223372036854775808 ≤ seg ∧ seg ≤ 9223372036854775807) (he : -9223372036854775808 ≤ earned ∧ earned ≤ 9223372036854775807) : Sp Tryz.prog 9 #[i64 seg, i64 earned] [] (Is (.bool true)) := by
  refine Sp.intro Tryz.func9 rfl rfl rfl fun w K => ?_
  (try refine wk ?_); (repeat (intro b; (try refine wk ?_)))
  refine J.cl (Make1C 10 (by omega) hen10) ?_
  rintro _ _ ⟨bst, s, t, nb, u, g, sg, cap', base, last, lb, q, am, im, be, bc, le, lc, fv, Hr, rest', d, db, gb, wrc, D, rest, cap, rfl, hcap, hbm, hlm, hfv, rfl⟩; refine J.pn ?_
  have hOne := OneQ bst s t nb u g q am im be bc nd1 (sec0 0 1) (stOf d (10 : Nat) 3 sg (rng 10).length cap' lb (0 + 1) (secM (xF 0 1)) 0 0 0 base last s t nb u g) rfl rfl hbm
  have hHas := HasQ1 bst s t nb u g q am im be bc nd1 (sec0 0 1) (stOf d (10 : Nat) 3 sg (rng 10).length cap' lb (0 + 1) (secM (xF 0 1)) 0 0 0 base last s t nb u g) rfl hbm
  (try refine wk ?_); (repeat (intro b; (try refine wk ?_)))
  refine J.cl (GeomOf 10 (by omega)) ?_
  rintro _ _ ⟨rfl, rfl⟩; refine J.pn ?_
  (try refine wk ?_); (repeat (intro b; (try refine wk ?_)))
  refine J.cl (CleanNew bst 10 _ (rng 10) _ (gbInts gb 10 cap rest hcap) (by decide) 10) ?_
  rintro _ _ ⟨cb, rv, m, Hc, rfl, hr, rfl⟩; refine J.pn ?_
  obtain ⟨csb, ccap, crest, rfl, rfl⟩ := slInts hr (by decide)
  (try refine wk ?_); (repeat (intro b; (try refine wk ?_)))
  refine J.cl (Place earned 20 (by omega) (by omega)) ?_
  rintro _ _ ⟨rfl, rfl⟩; refine J.pn ?_
  have hp1 : 0 ≤ place earned 20 ∧ place earned 20 < 20 := place_in earned 20 (by omega)
  generalize place earned 20 = p1 at *
  (try refine wk ?_); (repeat (intro b; (try refine wk ?_)))
  refine J.cl (Earn cb bst 10 (slc csb 0 (rng 10).length ccap) (cut 10 1000) 0 p1 (by decide) (by decide)) ?_
  rintro _ _ rfl; refine J.put rfl ?_; refine J.nm ?_
  generalize min (0 + cut p1 1000 * cut 10 1000) 1000 = left
  (try refine wk ?_); (repeat (intro b; (try refine wk ?_)))
  refine J.cl (Left cb bst 10 (slc csb 0 (rng 10).length ccap) (cut 10 1000) left) ?_
  rintro _ _ ⟨rfl, rfl⟩; refine J.pn ?_
  (try refine wk ?_); (repeat (intro b; (try refine wk ?_)))
  refine J.cl (Place seg 1000 (by omega) (by omega)) ?_
  rintro _ _ ⟨rfl, rfl⟩; refine J.pn ?_
  have hp2 : 0 ≤ place seg 1000 ∧ place seg 1000 < 1000 := place_in seg 1000 (by omega)
  generalize place seg 1000 = p2 at *
  (try refine wk ?_); (repeat (intro b; (try refine wk ?_)))
  have hSt : ∀ z : Int, 0 ≤ z → (z ∉ rng 10 ∨ z = (cpS (xF 0 1) 0).seg ∨ z = (cpS (xF 0 1) 0).next) → _ := fun z h0 h => StepNo cb bst 10 (slc csb 0 (rng 10).length ccap) (cut 10 1000) left sg cap' lb d d 10 3 (0 + 1) (secM (xF 0 1)) 0 0 0 base last (.map (some s)) (.map (some t)) (.map (some nb)) (.map (some u)) (.map (some g)) (rng 10) rest' (by decide) (10 : Nat) 3 (cpS (xF 0 1) 0) fv z h0 h
  refine J.cl (hSt (10 + p2) (by omega) (.inl (fun h => by have := rng_in 10 _ h; omega))) ?_
  rintro _ _ ⟨rfl, rfl⟩; refine J.pn ?_
  (try refine wk ?_); (repeat (intro b; (try refine wk ?_)))
  have hSl := SlotQ bst s t nb u g d (10 : Nat) 3 (slc sg 0 (rng 10).length cap') (0 + 1) (secM (xF 0 1)) 0 0 0 base last lb d (10 : Nat) (cpS (xF 0 1) 0) fv
  refine J.cl hSl ?_
  rintro _ _ ⟨rfl, rfl⟩; refine J.pn ?_
  (try refine wk ?_); (repeat (intro b; (try refine wk ?_)))
  refine J.cl (hSt (cpS (xF 0 1) 0).seg (by decide) (.inr (.inl rfl))) ?_
  rintro _ _ ⟨rfl, rfl⟩; refine J.pn ?_
  (try refine wk ?_); (repeat (intro b; (try refine wk ?_)))
  refine J.cl hSl ?_
  rintro _ _ ⟨rfl, rfl⟩; refine J.pn ?_
  (try refine wk ?_); (repeat (intro b; (try refine wk ?_)))
  refine J.cl (hSt (cpS (xF 0 1) 0).next (by decide) (.inr (.inr rfl))) ?_
  rintro _ _ ⟨rfl, rfl⟩; refine J.pn ?_
  have hll : (left == left) = true := beq_self_eq_true _
  (try refine wk ?_); (repeat (intro b; (try refine wk ?_)))
  (refine J.want rfl rfl rfl ?_; refine J.callT (Left cb bst 10 (slc csb 0 (rng 10).length ccap) (cut 10 1000) left) ?_)
  rintro _ _ ⟨rfl, rfl⟩; refine J.pn ?_
  (try refine wk ?_); (repeat (intro b; (try refine wk ?_)))
  (refine J.want rfl rfl rfl ?_; refine J.callT (Live bst _ hOne hHas) ?_)
  rintro _ _ ⟨rfl, rfl⟩; refine J.pn ?_
  (try refine wk ?_); (repeat (intro b; (try refine wk ?_)))
  (refine J.want rfl rfl rfl ?_; refine J.callT Awake20 ?_)
  rintro _ _ ⟨rfl, rfl⟩; refine J.pn ?_
  (try refine wk ?_); (repeat (intro b; (try refine wk ?_)))
  refine J.doneT (H' := []) (res1 rfl rfl) ⟨rfl, rfl⟩
end Go.Proofs.YF
