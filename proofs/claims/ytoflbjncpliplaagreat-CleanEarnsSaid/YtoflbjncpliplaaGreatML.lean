/- Part ML of the walks that a statement of this seat is proved by: laws of memory, then the functions one by one. -/
import Derived.Test.YtoflbjncpliplaaGreatMK
namespace Go.Proofs.YF
open Go YE
attribute [local irreducible] CW LW OW XW AW PW HW RW AK HK AP HP DX CI LI OI BW RE MW J Gives
set_option maxHeartbeats 1000000
set_option maxRecDepth 20000
set_option maxHeartbeats 4000000

theorem earn_eq (left t m : Int) (hl : 0 ≤ left) (hm : 0 ≤ m) : min (left + min (max t 0) 2000 * m) 1000 = min (left + cut t 1000 * m) 1000 := by
  by_cases ht : t ≤ 1000
  · have : min (max t 0) 2000 = cut t 1000 := by unfold cut; omega
    rw [this]
  · have h1 : cut t 1000 = 1000 := by unfold cut; omega
    have h2 : 1000 ≤ min (max t 0) 2000 := by omega
    rw [h1]
    by_cases h0 : m = 0
    · rw [h0]; simp
    · have h3 : 1000 * 1 ≤ min (max t 0) 2000 * m := Int.mul_le_mul h2 (by omega) (by omega) (by omega)
      have h4 : (1000 : Int) * 1 ≤ 1000 * m := Int.mul_le_mul_of_nonneg_left (by omega) (by omega)
      omega
/-- A slice of numbers that is looked at: none, or a part of a block. -/
def Seen (v : Value) (xs : List Int) (Hx : Heap) : Prop :=
  (∃ p c, v = .slice p 0 c ∧ xs = [] ∧ Hx = []) ∨
  ∃ b k cap l e z, v = slc b k xs.length cap ∧ Hx = [(b, .cells l e z)] ∧ (l.drop k).take xs.length = xs.map (fun x => i64 x) ∧ k + xs.length ≤ l.length
theorem CleanEarns (budget : Int) (hb : -9223372036854775808 ≤ budget ∧ budget ≤ 9223372036854775807) (tv : Value) (ticks : List Int) (Ht : Heap) (ht : Seen tv ticks Ht) : Sp Tryz.prog 8 #[i64 budget, tv] [Ht] (fun v H => v = .bool true ∧ H = [Ht]) := by
  refine Sp.intro Tryz.func8 rfl rfl rfl fun w K => ?_
  obtain ⟨tp, tcp, rfl⟩ : ∃ p c, tv = .slice p ticks.length c := by
    rcases ht with ⟨p, c, rfl, rfl, _⟩ | ⟨b, k, cap, l, e, z, rfl, _⟩
    · exact ⟨_, _, rfl⟩
    · exact ⟨_, _, rfl⟩
  (try refine wk ?_); (repeat (intro b; (try refine wk ?_)))
  refine J.cl (Make1C 8 (by omega) hen8) ?_
  rintro _ _ ⟨bst, s, t, nb, u, g, sg, cap', base, last, lb, q, am, im, be, bc, le, lc, fv, Hr, rest', d, db, gb, wrc, D, rest, cap, rfl, hcap, hbm, hlm, hfv, rfl⟩; refine J.pn ?_
  by_cases hlen : 50 < ticks.length
  · have hli : (50 : Int) < ticks.length := by omega
    (try refine wk ?_); (repeat (intro b; (try refine wk ?_)))
    (refine J.want rfl rfl rfl ?_; refine J.callT Awake20 ?_)
    rintro _ _ ⟨rfl, rfl⟩; refine J.pn ?_
    (try refine wk ?_); (repeat (intro b; (try refine wk ?_)))
    refine J.doneT (H' := [Ht]) (res1 rfl rfl) ⟨rfl, rfl⟩
  · have hli : ¬ (50 : Int) < ticks.length := by omega
    (try refine wk ?_); (repeat (intro b; (try refine wk ?_)))
    refine J.cl (Place budget 1500 (by omega) (by omega)) ?_
    rintro _ _ ⟨rfl, rfl⟩; refine J.pn ?_
    have hp1 : 0 ≤ place budget 1500 ∧ place budget 1500 < 1500 := place_in budget 1500 (by omega)
    generalize place budget 1500 = b7 at *
    have hcut : cut b7 1000 = min b7 1000 := by unfold cut; omega
    (try refine wk ?_); (repeat (intro b; (try refine wk ?_)))
    refine J.cl (GeomOf 8 (by omega)) ?_
    rintro _ _ ⟨rfl, rfl⟩; refine J.pn ?_
    (try refine wk ?_); (repeat (intro b; (try refine wk ?_)))
    refine J.cl (CleanNew bst 8 _ (rng 8) _ (gbInts gb 8 cap rest hcap) (by decide) b7) ?_
    rintro _ _ ⟨cb, rv, m, Hc, rfl, hr, rfl⟩; refine J.pn ?_
    have hbud := cut_in b7 1000 (by omega)
    (try refine wk ?_); (repeat (intro b; (try refine wk ?_)))
    refine J.pick [1, 5, 6, 7, 8, 9, 10] rfl ?_
    refine J.loopT (α := Nat × Int) (fun z => [(1, .slice tp ticks.length tcp), (5, ptr bst 0), (6, slc gb 0 (rng 8).length cap), (7, i64 b7), (8, ptr cb 0), (9, i64 z.2), (10, i64 z.1)])
      (fun z => [[(cb, .cells (clcells bst 8 rv (cut b7 1000) z.2) 123 (0, 0))], Ht, [(gb, .cells (ints (rng 8) ++ rest) 3 (0, 0))]]) (fun z => z.1 ≤ ticks.length ∧ 0 ≤ z.2 ∧ z.2 ≤ 1000) (fun z => ticks.length - z.1) (0, 0) ⟨Nat.zero_le _, by decide, by decide⟩ ?_
    rintro ⟨k, left⟩ ⟨hk, hl0, hl1⟩
    simp only at hk hl0 hl1
    by_cases hkn : k < ticks.length
    · have hki : (k : Int) < ticks.length := by omega
      have hkr : (0 : Int) ≤ k ∧ (k : Int) < ticks.length := by omega
      rcases ht with ⟨_, _, _, rfl, _⟩ | ⟨tb, t0, tcap, tl, te, tz, hte, rfl, hta, htb⟩
      · cases hkn
      cases hte
      have htk : tl[t0 + (k : Int).toNat * 1]? = some (i64 ticks[k]) := by
        rw [Int.toNat_natCast, Nat.mul_one]; exact ints_at hta k hkn
      generalize ticks[k] = tk at *
      have hE := earn_eq left tk (min b7 1000) hl0 (by omega)
      have hm1 : 0 ≤ min (max tk 0) 2000 * min b7 1000 ∧ min (max tk 0) 2000 * min b7 1000 ≤ 2000000 := by
        refine ⟨Int.mul_nonneg (by omega) (by omega), ?_⟩
        have h1 : min (max tk 0) 2000 * min b7 1000 ≤ 2000 * min b7 1000 := Int.mul_le_mul_of_nonneg_right (by omega) (by omega)
        omega
      have hm2 : 0 ≤ cut tk 1000 * min b7 1000 := Int.mul_nonneg (cut_in tk 1000 (by omega)).1 (by omega)
      (try refine wk ?_); (repeat (intro b; (try refine wk ?_)))
      refine J.op rfl ?_; refine J.isLoad ?_; refine J.give (Gives.load1 1 rfl rfl rfl htk) rfl rfl ?_
      refine J.cl (Earn cb bst 8 rv (cut b7 1000) left tk hbud ⟨hl0, hl1⟩) ?_
      rintro _ _ rfl; refine J.put rfl ?_; refine J.nm ?_
      (try refine wk ?_); (repeat (intro b; (try refine wk ?_)))
      refine J.fr [[(tb, .cells tl te tz)]] ?_
      refine J.op rfl ?_; refine J.isLoad ?_; refine J.give (Gives.load1 0 rfl rfl rfl htk) rfl rfl ?_
      (try refine wk ?_); (repeat (intro b; (try refine wk ?_)))
      have hbb : min (left + cut tk 1000 * cut b7 1000) 1000 = min (left + min (max tk 0) 2000 * min b7 1000) 1000 := by rw [hE, hcut]
      refine J.cl (Left cb bst 8 rv (cut b7 1000) (min (left + cut tk 1000 * cut b7 1000) 1000)) ?_
      rintro _ _ ⟨rfl, rfl⟩; refine J.pn ?_
      refine J.slot 62 (i64 (min (left + min (max tk 0) 2000 * min b7 1000) 1000)) rfl (congrArg i64 hbb) ?_
      have hnn : (min (left + min (max tk 0) 2000 * min b7 1000) 1000 != min (left + min (max tk 0) 2000 * min b7 1000) 1000) = false := bne_self_eq_false _
      (try refine wk ?_); (repeat (intro b; (try refine wk ?_)))
      refine J.pick [1, 5, 6, 7, 8, 9, 10] rfl ?_
      rw [hbb]
      exact J.roundT (k + 1, min (left + min (max tk 0) 2000 * min b7 1000) 1000) ⟨hkn, by show 0 ≤ min (left + min (max tk 0) 2000 * min b7 1000) 1000; omega, by show min (left + min (max tk 0) 2000 * min b7 1000) 1000 ≤ 1000; omega⟩ (by show ticks.length - (k + 1) < ticks.length - k; omega)
    · obtain rfl : k = ticks.length := by omega
      have hcut0 : cut (-1 - b7) 1000 = 0 := by unfold cut; omega
      (try refine wk ?_); (repeat (intro b; (try refine wk ?_)))
      refine J.cl (GeomOf 8 (by omega)) ?_
      rintro _ _ ⟨rfl, rfl⟩; refine J.pn ?_
      (try refine wk ?_); (repeat (intro b; (try refine wk ?_)))
      refine J.cl (CleanNew bst 8 _ (rng 8) _ (gbInts gb 8 cap rest hcap) (by decide) (-1 - b7)) ?_
      rw [hcut0]
      rintro _ _ ⟨cb2, rv2, m2, Hc2, rfl, hr2, rfl⟩; refine J.pn ?_
      (try refine wk ?_); (repeat (intro b; (try refine wk ?_)))
      refine J.cl (Earn cb2 bst 8 rv2 0 0 5 (by decide) (by decide)) ?_
      rintro _ _ rfl; refine J.put rfl ?_; refine J.nm ?_
      (try refine wk ?_); (repeat (intro b; (try refine wk ?_)))
      refine J.cl (Left cb2 bst 8 rv2 0 (min (0 + cut 5 1000 * 0) 1000)) ?_
      rintro _ _ ⟨rfl, rfl⟩; refine J.pn ?_
      refine J.slot 74 (i64 0) rfl rfl ?_
      (try refine wk ?_); (repeat (intro b; (try refine wk ?_)))
      (refine J.want rfl rfl rfl ?_; refine J.callT Awake20 ?_)
      rintro _ _ ⟨rfl, rfl⟩; refine J.pn ?_
      (try refine wk ?_); (repeat (intro b; (try refine wk ?_)))
      refine J.doneT (H' := [Ht]) (res1 rfl rfl) ⟨rfl, rfl⟩
end Go.Proofs.YF
