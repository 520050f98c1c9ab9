/- Part MH of the walks that a statement of this seat is proved by: laws of memory, then the functions one by one. -/
import Derived.Test.YtoflbjncpliplaaGreatRows
import Derived.WalkKit
import Derived.ProofKit
import Derived.OpenShut
import Derived.Test.YtoflbjncpliplaaGreatMG
namespace Go.Proofs.YF
open Go YE
attribute [local irreducible] CW LW OW XW AW PW HW RW AK HK AP HP DX CI LI OI BW RE MW J Gives
set_option maxHeartbeats 1000000
set_option maxRecDepth 20000
set_option maxHeartbeats 4000000

abbrev nd1 : Nd := ⟨1, 2, 1, 0, 0, List.replicate 14 0⟩
abbrev slF (s0 s1 : Int) : Slv := ⟨0, 1, 0, s0, 0, s1, 1, 0, 0, 0, 0, 0, 0⟩
theorem sbuilt (a b : Int) : Tryz.prog.built 57 [(1, i64 1), (6, i64 1), (3, i64 a), (5, i64 b)] = some (slF a b).cells.toArray := by kernel_rfl
theorem nbuilt : Tryz.prog.built 31 [(0, i64 1), (1, i64 2), (2, i64 1)] = some nd1.cells.toArray := by kernel_rfl
theorem dc0 (S : Nat) : dcells (List.replicate S (zeros 256)) = List.replicate (256 * S) (.int .u8 0) := by
  induction S with
  | zero => rfl
  | succ S ih =>
    rw [List.replicate_succ]
    show bv (zeros 256) ++ dcells _ = _
    rw [ih, zeros_bv, List.replicate_append_replicate, Nat.mul_succ, Nat.add_comm]
abbrev xF (s0 s1 : Int) : Slv := (slF s0 s1).behind hd0 2
abbrev sec0 (s0 s1 : Int) : Int := 48 + 32 * (slF s0 s1).seg + (slF s0 s1).pos + 1
/-- What is left when a store was founded: beside its own blocks. -/
theorem Found (d db : Nat) (N : Nat) (hN : 8 ≤ N ∧ N ≤ 500) (gen : Int) (hgen : 1 ≤ gen ∧ gen ≤ 65535) (gb cap : Nat) (s0 s1 : Int) (sr : List Int) (segs : List Int) (hsg : segs = s0 :: s1 :: sr) (rest : List Value) (hcap : segs.length ≤ cap) (hn : 8 ≤ segs.length ∧ segs.length ≤ 500)
    (hin : ∀ s, s ∈ segs → 0 ≤ s ∧ s < N) (hen : 4 + segs.length / 8 ≤ (emptyL [] s0 s0 segs).length) (S : Nat) (hS : S = 48 + 32 * N) :
    Sp Tryz.prog 41 #[ptr d 0, gv N, i64 2, i64 gen, slc gb 0 segs.length cap] [[(d, .cells (dcell nilRest db S nils 0) 114 (0, 0))], [(db, .cells (List.replicate (256 * S) (.int .u8 0)) 137 (0, 0))], [(gb, .cells (ints segs ++ rest) 3 (0, 0))]]
      (fun v H => ∃ bst s t n u g sg cap' base last lb q am im be bc le lc fv Hr rest' D wr, v = .tuple #[ptr bst 0, .bool true] ∧ MapOK ki kp [(1, q)] be bc ∧ MapOK ki ki (aset (aset [] (slF s0 s1).seg (slF s0 s1).seq) (xF s0 s1).seg (xF s0 s1).seq) le lc ∧ Sl 3 1 fv (emptyL [(segOf (sec0 s0 s1), 1)] (xF s0 s1).seg (xF s0 s1).next segs).length (ints (emptyL [(segOf (sec0 s0 s1), 1)] (xF s0 s1).seg (xF s0 s1).next segs)) Hr ∧
        H = [[(bst, .cells (stOf d N gen sg segs.length cap' lb (0 + 1) (secM (xF s0 s1)) 0 0 0 base last s t n u g).cells 92 (0, 0))]] ++ nows s t n u g ++
          [[(sg, .cells (ints segs ++ rest') 3 (0, 0))], [(base, .map be bc)], [(last, .map le lc)], [(lb, .cells (lcell d N gen (cpS (xF s0 s1) 0) fv) 190 (0, 0))], Hr, [(d, .cells (dcell nilRest db S nils wr) 114 (0, 0))], [(db, .cells (dcells D) 137 (0, 0))],
            [(q, .cells (stcells nd1 (sec0 s0 s1) am im) 108 (0, 0))], [(am, .map [] 0)], [(im, .map [] 0)], [(gb, .cells (ints segs ++ rest) 3 (0, 0))]]) := by
  refine Sp.intro Tryz.func41 rfl rfl rfl fun w K => ?_
  have hlen : segs.length = sr.length + 2 := by rw [hsg]; rfl
  have htk : ((ints segs ++ rest).drop 0).take segs.length = ints segs := by
    have e : segs.length = (ints segs).length := by simp [ints]
    rw [List.drop_zero, e]; exact List.take_left
  have hi0 : Ints (slc gb 0 segs.length cap) segs [(gb, .cells (ints segs ++ rest) 3 (0, 0))] := .inr ⟨gb, 0, cap, _, _, rfl, rfl, htk, by simp [ints], hcap⟩
  have hD0 : Secs S (List.replicate S (zeros 256)) := ⟨List.length_replicate, fun s hs => by rw [(List.mem_replicate.1 hs).2]; exact zeros_size 256⟩
  have h0 := hin s0 (by rw [hsg]; simp)
  have h1 := hin s1 (by rw [hsg]; simp)
  rw [← dc0]
  (try refine wk ?_); (repeat (intro b; (try refine wk ?_)))
  obtain ⟨b6, rfl⟩ : ∃ q, q = b := ⟨b, rfl⟩
  refine J.cl (Right d nilRest db S nils 0 N hN (slc gb 0 segs.length cap) segs _ hi0 (by omega) hin) ?_
  rintro _ _ ⟨rfl, rfl⟩; refine J.pn ?_
  (try refine wk ?_); (repeat (intro b; (try refine wk ?_)))
  (refine J.want rfl rfl rfl ?_; refine J.nilAt 1 rfl ?_; refine J.callT (Wipe d nilRest db S nils 0 0 [] [] (by omega) (Sl.nil 139 258) (by omega) (by omega)) ?_)
  rintro _ _ ⟨rfl, wv1, Hw1, hw1, rfl⟩; refine J.pn ?_
  (try refine wk ?_); (repeat (intro b; (try refine wk ?_)))
  refine J.cl (Made d N gen (slc gb 0 segs.length cap) segs _ hi0 (by omega)) ?_
  rintro _ _ ⟨bst, base, last, s, t, n, u, g, rv, m, Hr, rfl, hr, rfl⟩; refine J.pn ?_
  have hm : m = segs.length := by have := hr.len; simp [ints] at this; omega
  subst hm
  rcases hr with ⟨_, hz, _, _⟩ | ⟨sg, cap', rest', rfl, rfl, _, _, hcap', _⟩
  · omega
  (try refine wk ?_); (repeat (intro b; (try refine wk ?_)))
  refine J.cl (Clear bst sg cap' d N hN gen (.pointer none) 0 0 0 0 0 base last (.map (some s)) (.map (some t)) (.map (some n)) (.map (some u)) (.map (some g)) segs rest' (by omega) hin db S hS wv1 2 2 _ Hw1 _ hD0 ?_ hw1 (by omega) ?_ ?_) ?_
  · intro x hx
    simp [wiped] at hx
    rcases hx with rfl | rfl
    · exact ⟨by decide, by show (18 : Int) < S; omega, zeros_size 256⟩
    · exact ⟨by decide, by show (19 : Int) < S; omega, zeros_size 256⟩
  · intro x hx
    simp [wiped] at hx
    rcases hx with rfl | rfl <;> decide
  · intro i h1 h2
    rw [List.getElem?_replicate, if_pos h2]
  rintro _ _ ⟨rfl, rfl⟩; refine J.pn ?_
  (try refine wk ?_); (repeat (intro b; (try refine wk ?_)))
  have hl0 : (ints segs ++ rest)[0 + (0 : Int).toNat * 1]? = some (i64 s0) := by rw [hsg]; rfl
  have hl1 : (ints segs ++ rest)[0 + (1 : Int).toNat * 1]? = some (i64 s1) := by rw [hsg]; rfl
  have hi1 : (0 : Int) ≤ 0 ∧ (0 : Int) < segs.length := by omega
  have hi2 : (0 : Int) ≤ 1 ∧ (1 : Int) < segs.length := by omega
  have hsb : (0 : Int) ≤ 2 ∧ (2 : Int) ≤ segs.length := by omega
  have hsc : (segs.length : Int) ≤ cap := by omega
  refine J.any Tryz.mixed [[(b6, .cells [i64 (48 + 32 * (N : Int)), i64 32] 61 (0, 0))], [(gb, .cells (ints segs ++ rest) 3 (0, 0))]] ?_
  refine J.tk 0 ?_
  refine J.tk 1 ?_
  (first | refine J.tk 2 ?_ | (refine J.tkO 2 ?_; first | refine J.giveT (Gives.load1 1 rfl rfl rfl hl0) rfl rfl ?_ | refine J.giveT (Gives.load1 1 rfl rfl rfl hl1) rfl rfl ?_ | refine J.giveT (Gives.slcFrom rfl rfl rfl hsb hsc) rfl rfl ?_ | refine J.giveT (Gives.build (vs := [(1, i64 1), (6, i64 1), (3, i64 s0), (5, i64 s1)]) (cells := (slF s0 s1).cells.toArray) rfl rfl (sbuilt s0 s1)) rfl rfl ?_))
  refine J.tk 3 ?_
  refine J.tk 4 ?_
  refine J.tk 5 ?_
  (first | refine J.tk 6 ?_ | (refine J.tkO 6 ?_; first | refine J.giveT (Gives.load1 1 rfl rfl rfl hl0) rfl rfl ?_ | refine J.giveT (Gives.load1 1 rfl rfl rfl hl1) rfl rfl ?_ | refine J.giveT (Gives.slcFrom rfl rfl rfl hsb hsc) rfl rfl ?_ | refine J.giveT (Gives.build (vs := [(1, i64 1), (6, i64 1), (3, i64 s0), (5, i64 s1)]) (cells := (slF s0 s1).cells.toArray) rfl rfl (sbuilt s0 s1)) rfl rfl ?_))
  (first | refine J.tk 7 ?_ | (refine J.tkO 7 ?_; first | refine J.giveT (Gives.load1 1 rfl rfl rfl hl0) rfl rfl ?_ | refine J.giveT (Gives.load1 1 rfl rfl rfl hl1) rfl rfl ?_ | refine J.giveT (Gives.slcFrom rfl rfl rfl hsb hsc) rfl rfl ?_ | refine J.giveT (Gives.build (vs := [(1, i64 1), (6, i64 1), (3, i64 s0), (5, i64 s1)]) (cells := (slF s0 s1).cells.toArray) rfl rfl (sbuilt s0 s1)) rfl rfl ?_))
  refine J.tk 8 ?_
  (first | refine J.tk 9 ?_ | (refine J.tkO 9 ?_; first | refine J.giveT (Gives.load1 1 rfl rfl rfl hl0) rfl rfl ?_ | refine J.giveT (Gives.load1 1 rfl rfl rfl hl1) rfl rfl ?_ | refine J.giveT (Gives.slcFrom rfl rfl rfl hsb hsc) rfl rfl ?_ | refine J.giveT (Gives.build (vs := [(1, i64 1), (6, i64 1), (3, i64 s0), (5, i64 s1)]) (cells := (slF s0 s1).cells.toArray) rfl rfl (sbuilt s0 s1)) rfl rfl ?_))
  (first | refine J.tk 10 ?_ | (refine J.tkO 10 ?_; first | refine J.giveT (Gives.load1 1 rfl rfl rfl hl0) rfl rfl ?_ | refine J.giveT (Gives.load1 1 rfl rfl rfl hl1) rfl rfl ?_ | refine J.giveT (Gives.slcFrom rfl rfl rfl hsb hsc) rfl rfl ?_ | refine J.giveT (Gives.build (vs := [(1, i64 1), (6, i64 1), (3, i64 s0), (5, i64 s1)]) (cells := (slF s0 s1).cells.toArray) rfl rfl (sbuilt s0 s1)) rfl rfl ?_))
  (first | refine J.tk 11 ?_ | (refine J.tkO 11 ?_; first | refine J.giveT (Gives.load1 1 rfl rfl rfl hl0) rfl rfl ?_ | refine J.giveT (Gives.load1 1 rfl rfl rfl hl1) rfl rfl ?_ | refine J.giveT (Gives.slcFrom rfl rfl rfl hsb hsc) rfl rfl ?_ | refine J.giveT (Gives.build (vs := [(1, i64 1), (6, i64 1), (3, i64 s0), (5, i64 s1)]) (cells := (slF s0 s1).cells.toArray) rfl rfl (sbuilt s0 s1)) rfl rfl ?_))
  refine J.tk 12 ?_
  (first | refine J.tk 13 ?_ | (refine J.tkO 13 ?_; first | refine J.giveT (Gives.load1 1 rfl rfl rfl hl0) rfl rfl ?_ | refine J.giveT (Gives.load1 1 rfl rfl rfl hl1) rfl rfl ?_ | refine J.giveT (Gives.slcFrom rfl rfl rfl hsb hsc) rfl rfl ?_ | refine J.giveT (Gives.build (vs := [(1, i64 1), (6, i64 1), (3, i64 s0), (5, i64 s1)]) (cells := (slF s0 s1).cells.toArray) rfl rfl (sbuilt s0 s1)) rfl rfl ?_))
  refine J.on 14 ?_ -- call
  refine J.slot 47 (slc gb 2 sr.length (cap - 2)) rfl ?_ ?_
  · have e1 : ¬ cap = (2 : Int).toNat := by show ¬ cap = 2; omega
    have e2 : segs.length - (2 : Int).toNat = sr.length := by show segs.length - 2 = _; omega
    rw [if_neg e1, e2]; rfl
  have htk2 : ((ints segs ++ rest).drop 2).take sr.length = ints sr := by
    have e : sr.length = (ints sr).length := by simp [ints]
    rw [hsg, e]; exact List.take_left
  have hir : Ints (slc gb 2 sr.length (cap - 2)) sr [(gb, .cells (ints segs ++ rest) 3 (0, 0))] := .inr ⟨gb, 2, cap - 2, _, _, rfl, rfl, htk2, by simp [ints]; omega, by omega⟩
  refine J.callT (LogNew d N gen (slF s0 s1) _ sr _ hir (by omega)) ?_
  rintro _ _ ⟨lb, m2, fv, Hf, rfl, hf, rfl⟩; refine J.pn ?_
  have hff := Sl.ints hf
  refine J.hd ?_
  refine J.tk 15 ?_
  refine J.tk 16 ?_
  refine J.on 17 ?_ -- store
  (refine wo ?_; (try intro b))
  refine J.hd ?_
  refine J.al ?_
  (try refine wk ?_); (repeat (intro b; (try refine wk ?_)))
  refine J.op rfl ?_; refine J.isBuild ?_; refine J.give (Gives.build (vs := [(0, i64 1), (1, i64 2), (2, i64 1)]) (cells := nd1.cells.toArray) rfl rfl nbuilt) rfl rfl ?_
  refine J.cl (SetNode bst n u (stOf d N gen sg segs.length cap' lb 0 0 0 0 0 base last s t n u g) rfl rfl nd1 rfl rfl [] [] 0 (nil_ok 0) [] [] 0 (nil_ok 0)) ?_
  rintro _ _ ⟨ne, nc, ue, uc, rfl, hne, hue, rfl⟩; refine J.pn ?_
  (try refine wk ?_); (repeat (intro b; (try refine wk ?_)))
  have hwok : Wok S ([] ++ wiped 0 2) := by
    intro x hx
    simp [wiped] at hx
    rcases hx with rfl | rfl
    · exact ⟨by decide, by show (18 : Int) < S; omega, zeros_size 256⟩
    · exact ⟨by decide, by show (19 : Int) < S; omega, zeros_size 256⟩
  have hhd : (hd0.at gen (slF s0 s1)).Ok := ⟨of_decide_eq_true rfl, hgen, of_decide_eq_true rfl, of_decide_eq_true rfl, ⟨h1.1, by show s1 ≤ 1000; omega⟩, of_decide_eq_true rfl, of_decide_eq_true rfl, of_decide_eq_true rfl⟩
  have hns : nodeBlock nd1.bare = nodeBlock nd1.bare := rfl
  refine J.cl (Commit bst s t n u g 0 0 nc uc 0 0 ne ue nd1 hne hue sg cap' d N hN gen lb 0 0 0 0 0 base last segs rest' hn [] [] 0 (nil_ok 0) (slF s0 s1) fv sr Hf hff (by omega) (of_decide_eq_true rfl) h0 (of_decide_eq_true rfl) hen nilRest db S hS wv1 2 2 _ Hw1 _ hD0 hwok hw1 (by omega) (by omega) rfl rfl hhd) ?_
  rintro _ _ ⟨s', t', n', u', g', q, am, im, be, bc, le1, lc1, fv1, wv2, Hw2, rfl, hbm, hl1', hf1, hw2, rfl⟩; refine J.pn ?_
  (try refine wk ?_); (repeat (intro b; (try refine wk ?_)))
  have hD1 : Secs S (flush (List.replicate S (zeros 256)) ([] ++ wiped 0 2 ++ pwt (48 + 32 * (slF s0 s1).seg + (slF s0 s1).pos) 2 [nodeBlock nd1.bare])) := by
    refine Secs.flush _ _ hD0 ?_
    intro z hz
    rcases List.mem_append.1 hz with h | h
    · exact hwok z h
    · simp [pwt] at h
      subst h
      exact ⟨by show (0 : Int) ≤ 48 + 32 * s0 + 1; omega, by show 48 + 32 * s0 + 1 < (S : Int); omega, nodeBlock_size _ rfl⟩
  have hwok2 : Wok S [(2 + 1, 48 + 32 * (slF s0 s1).seg + (slF s0 s1).pos, headBlock (hd0.at gen (slF s0 s1)) [⟨3, 1, 0⟩] (joinT [nodeBlock nd1.bare]))] := by
    intro z hz
    rw [List.mem_singleton.1 hz]
    exact ⟨by show (0 : Int) ≤ 48 + 32 * s0 + 0; omega, by show 48 + 32 * s0 + 0 < (S : Int); omega, headBlock_size _ _ _ (by decide)⟩
  have hok1 : ((sameH (xF s0 s1)).at gen (xF s0 s1)).Ok := ⟨of_decide_eq_true rfl, hgen, of_decide_eq_true rfl, of_decide_eq_true rfl, ⟨h1.1, by show s1 ≤ 1000; omega⟩, of_decide_eq_true rfl, of_decide_eq_true rfl, of_decide_eq_true rfl⟩
  have hok2 : (cpS (xF s0 s1) 0).Ok := ⟨of_decide_eq_true rfl, of_decide_eq_true rfl, of_decide_eq_true rfl, of_decide_eq_true rfl, of_decide_eq_true rfl, ⟨h0.1, by show s0 ≤ 1000; omega⟩, ⟨h1.1, by show s1 ≤ 1000; omega⟩, of_decide_eq_true rfl, of_decide_eq_true rfl, ⟨by show (0 : Int) ≤ 48 + 32 * s0 + (0 + 2) + 1; omega, by show 48 + 32 * s0 + (0 + 2) + 1 ≤ (16383 : Int); omega⟩, of_decide_eq_true rfl, of_decide_eq_true rfl, of_decide_eq_true rfl⟩
  (refine J.want rfl rfl rfl ?_; refine J.callT (Checkpoint bst s' t' n' u' g' sg cap' d N hN gen hgen lb 0 (by omega) base last segs rest' hn _ le1 lc1 hl1' (xF s0 s1) fv1 sr Hf hf1 (by omega) (of_decide_eq_true rfl) h0 (of_decide_eq_true rfl) nilRest db S hS wv2 (2 + 2) 1 _ Hw2 _ hD1 hwok2 hw2 (by omega) (by omega) nd1 q am im be bc (sec0 s0 s1) ⟨by show (48 : Int) ≤ 48 + 32 * s0 + 0 + 1; omega, by show 48 + 32 * s0 + 0 + 1 < (48 + N * 32 : Int); omega⟩ hbm hok1 hok2) ?_)
  rintro _ _ ⟨lb2, fv2, Hr2, le2, lc2, rfl, hl2', hs2, rfl⟩; refine J.pn ?_
  (try refine wk ?_); (repeat (intro b; (try refine wk ?_)))
  refine J.doneT (res2 rfl rfl rfl) ⟨bst, s', t', n', u', g', sg, cap', base, last, lb2, q, am, im, be, bc, le2, lc2, fv2, Hr2, rest', _, _, rfl, hbm, hl2', hs2, rfl⟩
end Go.Proofs.YF
namespace Go.Proofs
open YE
instance : Two Tryz.prog 101 .i64 := ⟨by kernel_rfl, by kernel_rfl, by kernel_rfl⟩
end Go.Proofs
namespace Go.Proofs.YF
open Go YE
attribute [local irreducible] CW LW OW XW AW PW HW RW AK HK AP HP DX CI LI OI BW RE MW J Gives
set_option maxHeartbeats 1000000
set_option maxRecDepth 20000
abbrev kk2 (p : Int × Int) : Value := two .i64 p
theorem keyK : KeyLaw Tryz.prog 101 kk2 := keyLaw_two
abbrev tv (b : Bool) : Value := .bool b
/-- The blocks that questions look at. -/
abbrev SH (bst s1 t1 n1 u1 g1 q am im : Nat) (be : List MapEntry) (bc : Nat) (y : Nd) (sec : Int) (st : Sto) : Hs :=
  [[(bst, .cells st.cells 92 (0, 0))], [(s1, .map [] 0)], [(t1, .map [] 0)], [(n1, .map [] 0)], [(u1, .map [] 0)], [(g1, .map [] 0)], [(st.base, .map be bc)], [(q, .cells (stcells y sec am im) 108 (0, 0))], [(am, .map [] 0)], [(im, .map [] 0)]]
section
variable (bst s1 t1 n1 u1 g1 q am im : Nat) (be : List MapEntry) (bc : Nat) (y : Nd) (sec : Int) (st : Sto) (hvs : st.vs = .map (some s1)) (hvn : st.vn = .map (some n1)) (hvg : st.vg = .map (some g1)) (hbm : MapOK ki kp [(1, q)] be bc)
include hvn hvg hbm
theorem NodeQ1 : Sp Tryz.prog 34 #[ptr bst 0, i64 1] (SH bst s1 t1 n1 u1 g1 q am im be bc y sec st) (fun v H => v = .tuple #[bareV y, .bool true] ∧ H = SH bst s1 t1 n1 u1 g1 q am im be bc y sec st) :=
  Sp.framed (NodeBase bst n1 g1 q st hvn hvg 1 y sec am im [] [] 0 (nil_ok 0) rfl [(1, q)] be bc hbm rfl [] [] 0 (nil_ok 0) rfl) (Took.perm tookBy)
omit hvg in
theorem NodeQ (n : Int) (hn : n ≠ 1) : Sp Tryz.prog 34 #[ptr bst 0, i64 n] (SH bst s1 t1 n1 u1 g1 q am im be bc y sec st) (fun v H => v = .tuple #[nd0.v, .bool false] ∧ H = SH bst s1 t1 n1 u1 g1 q am im be bc y sec st) :=
  Sp.framed (NodeNone bst n1 st hvn n [] [] 0 (nil_ok 0) rfl [(1, q)] be bc hbm (by unfold aget; simp [Ne.symm hn])) (Took.perm tookBy)
theorem OneQ : OneNode bst (SH bst s1 t1 n1 u1 g1 q am im be bc y sec st) := by
  intro n h1 h2
  by_cases hn : n = 1
  · subst hn
    exact ⟨y, (NodeQ1 bst s1 t1 n1 u1 g1 q am im be bc y sec st hvn hvg hbm).weak (fun v H h => ⟨by rw [h.1, decide_eq_true rfl], h.2⟩)⟩
  · exact ⟨nd0, (NodeQ bst s1 t1 n1 u1 g1 q am im be bc y sec st hvn hbm n hn).weak (fun v H h => ⟨by rw [h.1, decide_eq_false hn]; rfl, h.2⟩)⟩
omit hvn hvg
include hvs
theorem HasQ1 : Sp Tryz.prog 35 #[ptr bst 0, i64 1] (SH bst s1 t1 n1 u1 g1 q am im be bc y sec st) (fun v H => v = nils ∧ H = SH bst s1 t1 n1 u1 g1 q am im be bc y sec st) :=
  Sp.framed (Has1 bst s1 0 q am im 0 st hvs 1 y sec [(1, q)] be bc hbm rfl) (Took.perm tookBy)
theorem HasQ (n : Int) (hn : n ≠ 1) : Sp Tryz.prog 35 #[ptr bst 0, i64 n] (SH bst s1 t1 n1 u1 g1 q am im be bc y sec st) (fun v H => v = nils ∧ H = SH bst s1 t1 n1 u1 g1 q am im be bc y sec st) :=
  Sp.framed (Has0 bst s1 0 st hvs n [(1, q)] be bc hbm (by unfold aget; simp [Ne.symm hn])) (Took.perm tookBy)
end
section
variable (bst s1 t1 n1 u1 g1 q am im : Nat) (be : List MapEntry) (bc : Nat) (y : Nd) (sec : Int) (d N : Nat) (gen : Int) (sv lg : Value) (num m0 m1 m2 m3 : Int) (base last : Nat) (hbm : MapOK ki kp [(1, q)] be bc)
abbrev stQ (d N : Nat) (gen : Int) (sv lg : Value) (num m0 m1 m2 m3 : Int) (base last s1 t1 n1 u1 g1 : Nat) : Sto := ⟨d, N, gen, sv, lg, num, m0, m1, m2, m3, base, last, .map (some s1), .map (some t1), .map (some n1), .map (some u1), .map (some g1)⟩
abbrev QH (bst s1 t1 n1 u1 g1 q am im : Nat) (be : List MapEntry) (bc : Nat) (y : Nd) (sec : Int) (d N : Nat) (gen : Int) (sv lg : Value) (num m0 m1 m2 m3 : Int) (base last : Nat) : Hs := SH bst s1 t1 n1 u1 g1 q am im be bc y sec (stQ d N gen sv lg num m0 m1 m2 m3 base last s1 t1 n1 u1 g1)
include hbm
theorem OldQ (n i : Int) : Sp Tryz.prog 65 #[ptr bst 0, i64 n, i64 i] (QH bst s1 t1 n1 u1 g1 q am im be bc y sec d N gen sv lg num m0 m1 m2 m3 base last) (fun v H => v = i64 0 ∧ H = QH bst s1 t1 n1 u1 g1 q am im be bc y sec d N gen sv lg num m0 m1 m2 m3 base last) := by
  refine Sp.intro Tryz.func65 rfl rfl rfl fun w K => ?_
  by_cases hn : n = 1
  · subst hn
    (try refine wk ?_); (repeat (intro b; (try refine wk ?_)))
    refine J.op rfl ?_; refine J.isLookup ?_; refine J.give (Gives.look (enc := ki) (encV := kp) (m := [(1, q)]) (k := 1) 6 keyI hbm rfl rfl rfl rfl) rfl rfl ?_
    refine J.slot 13 (ptr q 0) rfl rfl ?_
    (try refine wk ?_); (repeat (intro b; (try refine wk ?_)))
    (refine J.want rfl rfl rfl ?_; refine J.isLookup ?_; refine J.give (Gives.look (enc := ki) (encV := tv) (m := []) (k := 1) 5 keyI (nil_ok 0) rfl rfl rfl rfl) rfl rfl ?_)
    refine J.slot 23 (.bool false) rfl rfl ?_
    (try refine wk ?_); (repeat (intro b; (try refine wk ?_)))
    (refine J.want rfl rfl rfl ?_; refine J.isBuild ?_; refine J.give (Gives.build (vs := [(0, i64 1), (1, i64 i)]) (cells := #[i64 1, i64 i]) rfl rfl rfl) rfl rfl ?_)
    (refine J.want rfl rfl rfl ?_; refine J.isLookup ?_; refine J.give (Gives.look (enc := kk2) (encV := tv) (m := []) (k := (1, i)) 2 keyK (nil_ok 0) rfl rfl rfl rfl) rfl rfl ?_)
    refine J.slot 34 (.bool false) rfl rfl ?_
    (try refine wk ?_); (repeat (intro b; (try refine wk ?_)))
    refine J.op rfl ?_; refine J.isLookup ?_; refine J.give (Gives.look (enc := ki) (encV := ki) (m := []) (k := i) 8 keyI (nil_ok 0) rfl rfl rfl rfl) rfl rfl ?_
    (try refine wk ?_); (repeat (intro b; (try refine wk ?_)))
    refine J.doneT (res1 rfl rfl) ⟨rfl, rfl⟩
  · (try refine wk ?_); (repeat (intro b; (try refine wk ?_)))
    refine J.op rfl ?_; refine J.isLookup ?_; refine J.give (Gives.look (enc := ki) (encV := kp) (m := [(1, q)]) (k := n) 6 keyI hbm rfl rfl rfl rfl) rfl rfl ?_
    refine J.slot 13 (.pointer none) rfl (by unfold aget; simp [Ne.symm hn]) ?_
    (try refine wk ?_); (repeat (intro b; (try refine wk ?_)))
    refine J.doneT (res1 rfl rfl) ⟨rfl, rfl⟩
theorem BlockQ (n i : Int) : Sp Tryz.prog 24 #[ptr bst 0, i64 n, i64 i] (QH bst s1 t1 n1 u1 g1 q am im be bc y sec d N gen sv lg num m0 m1 m2 m3 base last) (fun v H => v = .tuple #[.string (zeros 256), .bool false] ∧ H = QH bst s1 t1 n1 u1 g1 q am im be bc y sec d N gen sv lg num m0 m1 m2 m3 base last) := by
  refine Sp.intro Tryz.func24 rfl rfl rfl fun w K => ?_
  (try refine wk ?_); (repeat (intro b; (try refine wk ?_)))
  refine J.op rfl ?_; refine J.isBuild ?_; refine J.give (Gives.build (vs := [(0, i64 n), (1, i64 i)]) (cells := #[i64 n, i64 i]) rfl rfl rfl) rfl rfl ?_
  refine J.op rfl ?_; refine J.isLookup ?_; refine J.give (Gives.lookOk (enc := kk2) (encV := Value.string) (m := []) (k := (n, i)) 1 keyK (nil_ok 0) rfl rfl rfl rfl) rfl rfl ?_
  refine J.slot 22 (.tuple #[.string ⟨#[]⟩, .bool false]) rfl rfl ?_
  (try refine wk ?_); (repeat (intro b; (try refine wk ?_)))
  refine J.cl (OldQ bst s1 t1 n1 u1 g1 q am im be bc y sec d N gen sv lg num m0 m1 m2 m3 base last hbm n i) ?_
  rintro _ _ ⟨rfl, rfl⟩; refine J.pn ?_
  (try refine wk ?_); (repeat (intro b; (try refine wk ?_)))
  refine J.cl Blank ?_
  rintro _ _ ⟨rfl, rfl⟩; refine J.pn ?_
  (try refine wk ?_); (repeat (intro b; (try refine wk ?_)))
  refine J.doneT (res2 rfl rfl rfl) ⟨rfl, rfl⟩
theorem SetBlockQ (n i : Int) (s : ByteArray) (h : n ≠ 1 ∨ i < 0 ∨ 588 ≤ i ∨ s.size ≠ 256) (hs : s.size ≤ 100000) : Sp Tryz.prog 21 #[ptr bst 0, i64 n, i64 i, .string s] (QH bst s1 t1 n1 u1 g1 q am im be bc y sec d N gen sv lg num m0 m1 m2 m3 base last) (fun v H => v = .bool false ∧ H = QH bst s1 t1 n1 u1 g1 q am im be bc y sec d N gen sv lg num m0 m1 m2 m3 base last) := by
  refine Sp.intro Tryz.func21 rfl rfl rfl fun w K => ?_
  by_cases hn : n = 1
  · subst hn
    have hW : ∀ w K, J ⟨w, K, Tryz.f21.ntmps⟩ (CW Tryz.prog Tryz.f21.body.get! (bodyPost Tryz.prog Tryz.f21 (Ret w K (fun v H => v = .bool false ∧ H = QH bst s1 t1 n1 u1 g1 q am im be bc y sec d N gen sv lg num m0 m1 m2 m3 base last)))) (slotsFrom 0 [ptr bst 0, i64 1, i64 i, .string s]) (QH bst s1 t1 n1 u1 g1 q am im be bc y sec d N gen sv lg num m0 m1 m2 m3 base last) := by
      intro w K
      show J _ (CW Tryz.prog (Code.seq _ _) _) _ _
      by_cases h1 : i < 0
      · (try refine wk ?_); (repeat (intro b; (try refine wk ?_)))
        refine J.cl (NodeQ1 bst s1 t1 n1 u1 g1 q am im be bc y sec _ rfl rfl hbm) ?_
        rintro _ _ ⟨rfl, rfl⟩; refine J.pn ?_
        (try refine wk ?_); (repeat (intro b; (try refine wk ?_)))
        refine J.doneT (res1 rfl rfl) ⟨rfl, rfl⟩
      by_cases h2 : 588 ≤ i
      · (try refine wk ?_); (repeat (intro b; (try refine wk ?_)))
        refine J.cl (NodeQ1 bst s1 t1 n1 u1 g1 q am im be bc y sec _ rfl rfl hbm) ?_
        rintro _ _ ⟨rfl, rfl⟩; refine J.pn ?_
        (try refine wk ?_); (repeat (intro b; (try refine wk ?_)))
        refine J.doneT (res1 rfl rfl) ⟨rfl, rfl⟩
      have h3 : (s.size : Int) ≠ 256 := by omega
      (try refine wk ?_); (repeat (intro b; (try refine wk ?_)))
      refine J.cl (NodeQ1 bst s1 t1 n1 u1 g1 q am im be bc y sec _ rfl rfl hbm) ?_
      rintro _ _ ⟨rfl, rfl⟩; refine J.pn ?_
      (try refine wk ?_); (repeat (intro b; (try refine wk ?_)))
      refine J.doneT (res1 rfl rfl) ⟨rfl, rfl⟩
    exact hW w K
  · (try refine wk ?_); (repeat (intro b; (try refine wk ?_)))
    refine J.cl (NodeQ bst s1 t1 n1 u1 g1 q am im be bc y sec _ rfl hbm n hn) ?_
    rintro _ _ ⟨rfl, rfl⟩; refine J.pn ?_
    refine J.slot 14 (.tuple #[zeroV, .bool false]) rfl rfl ?_
    (try refine wk ?_); (repeat (intro b; (try refine wk ?_)))
    refine J.doneT (res1 rfl rfl) ⟨rfl, rfl⟩
theorem DropQ (n i : Int) (hn : n ≠ 1) : Sp Tryz.prog 25 #[ptr bst 0, i64 n, i64 i] (QH bst s1 t1 n1 u1 g1 q am im be bc y sec d N gen sv lg num m0 m1 m2 m3 base last) (fun v H => v = .bool false ∧ H = QH bst s1 t1 n1 u1 g1 q am im be bc y sec d N gen sv lg num m0 m1 m2 m3 base last) := by
  refine Sp.intro Tryz.func25 rfl rfl rfl fun w K => ?_
  (try refine wk ?_); (repeat (intro b; (try refine wk ?_)))
  refine J.cl (NodeQ bst s1 t1 n1 u1 g1 q am im be bc y sec _ rfl hbm n hn) ?_
  rintro _ _ ⟨rfl, rfl⟩; refine J.pn ?_
  refine J.slot 14 (.tuple #[zeroV, .bool false]) rfl rfl ?_
  (try refine wk ?_); (repeat (intro b; (try refine wk ?_)))
  refine J.doneT (res1 rfl rfl) ⟨rfl, rfl⟩
theorem GoneQ (n : Int) (hn : n ≠ 1) : Sp Tryz.prog 36 #[ptr bst 0, i64 n] (QH bst s1 t1 n1 u1 g1 q am im be bc y sec d N gen sv lg num m0 m1 m2 m3 base last) (fun v H => v = .bool false ∧ H = QH bst s1 t1 n1 u1 g1 q am im be bc y sec d N gen sv lg num m0 m1 m2 m3 base last) := by
  refine Sp.intro Tryz.func36 rfl rfl rfl fun w K => ?_
  (try refine wk ?_); (repeat (intro b; (try refine wk ?_)))
  refine J.cl (DropQ bst s1 t1 n1 u1 g1 q am im be bc y sec d N gen sv lg num m0 m1 m2 m3 base last hbm n 0 hn) ?_
  rintro _ _ ⟨rfl, rfl⟩; refine J.pn ?_
  (try refine wk ?_); (repeat (intro b; (try refine wk ?_)))
  refine J.doneT (res1 rfl rfl) ⟨rfl, rfl⟩
omit hbm
theorem SlotQ (lb ld : Nat) (lN : Int) (x : Slv) (fv : Value) : Sp Tryz.prog 38 #[ptr bst 0] [[(bst, .cells (stQ d N gen sv (ptr lb 0) num m0 m1 m2 m3 base last s1 t1 n1 u1 g1).cells 92 (0, 0))], [(lb, .cells (lcell ld lN gen x fv) 190 (0, 0))]]
    (fun v H => v = ({ x with num := num, m0 := m0, m1 := m1, m2 := m2, m3 := m3 } : Slv).v ∧ H = [[(bst, .cells (stQ d N gen sv (ptr lb 0) num m0 m1 m2 m3 base last s1 t1 n1 u1 g1).cells 92 (0, 0))], [(lb, .cells (lcell ld lN gen x fv) 190 (0, 0))]]) := by
  refine Sp.intro Tryz.func38 rfl rfl rfl fun w K => ?_
  (try refine wk ?_); (repeat (intro b; (try refine wk ?_)))
  refine J.cl (PlaceOf lb ld lN gen x fv) ?_
  rintro _ _ ⟨rfl, rfl⟩; refine J.pn ?_
  (try refine wk ?_); (repeat (intro b; (try refine wk ?_)))
  rename_i b2
  refine J.any Tryz.mixed [[(bst, .cells (stQ d N gen sv (ptr lb 0) num m0 m1 m2 m3 base last s1 t1 n1 u1 g1).cells 92 (0, 0))]] ?_
  refine J.tk 0 ?_
  refine J.tk 1 ?_
  refine J.tk 2 ?_
  refine J.tk 3 ?_
  refine J.tk 4 ?_
  refine J.tk 5 ?_
  refine J.tk 6 ?_
  refine J.tk 7 ?_
  refine J.tk 8 ?_
  refine J.on 9 ?_ -- store
  (refine wo ?_; (try intro b))
  refine J.hd ?_
  refine J.tk 10 ?_
  refine J.on 11 ?_ -- store
  (refine wo ?_; (try intro b))
  refine J.hd ?_
  refine J.al ?_
  (try refine wk ?_); (repeat (intro b; (try refine wk ?_)))
  refine J.fr [[(bst, .cells (stQ d N gen sv (ptr lb 0) num m0 m1 m2 m3 base last s1 t1 n1 u1 g1).cells 92 (0, 0))], [(lb, .cells (lcell ld lN gen x fv) 190 (0, 0))]] ?_
  refine J.done_first 2 (resA 3 rfl rfl rfl rfl rfl) rfl ⟨rfl, rfl⟩
end
end Go.Proofs.YF
namespace Go.Proofs.YF
open Go YE
attribute [local irreducible] CW LW OW XW AW PW HW RW AK HK AP HP DX CI LI OI BW RE MW J Gives
set_option maxHeartbeats 1000000
set_option maxRecDepth 20000
set_option maxHeartbeats 4000000

abbrev rng (n : Nat) : List Int := (List.range n).map fun (i : Nat) => (i : Int)
theorem rng_succ (n : Nat) : rng (n + 1) = rng n ++ [(n : Int)] := by simp [rng, List.range_succ]
theorem rng_len (n : Nat) : (rng n).length = n := by simp [rng]
theorem rng_two (m : Nat) : ∃ sr, rng (m + 2) = 0 :: 1 :: sr := by
  refine ⟨(List.range m).map (fun (i : Nat) => ((i + 2 : Nat) : Int)), ?_⟩
  simp [rng, List.range_succ_eq_map]
  intro a _; omega
theorem rng_in (n : Nat) : ∀ s, s ∈ rng n → 0 ≤ s ∧ s < n := by
  intro s hs
  obtain ⟨i, hi, rfl⟩ := List.mem_map.1 hs
  have := List.mem_range.1 hi
  omega
theorem Zero0 : Sp Tryz.prog 33 #[] [] (Is (.string (zeros 256))) := by
  refine Sp.intro Tryz.func33 rfl rfl rfl fun w K => ?_
  (try refine wk ?_); (repeat (intro b; (try refine wk ?_)))
  refine J.op rfl ?_; refine J.isMakeSlice ?_; refine J.makeSl rfl rfl rfl ?_ rfl rfl ?_
  · decide
  intro b
  refine J.norm (H' := [[(b, .cells (List.replicate 256 (.int .u8 0)) 5 (0, 0))]]) ?_ ?_
  · rw [madeCells_flat _ _ rfl]; rfl
  refine J.op rfl ?_; refine J.isConv ?_; refine J.give (Gives.bytesStr (s := zeros 256) 0 rfl rfl rfl (zeros_size 256) ?_) rfl rfl ?_
  · rw [zeros_bv]; rfl
  (try refine wk ?_); (repeat (intro b; (try refine wk ?_)))
  refine J.first 0 rfl ?_
  refine J.done_ret (res1 rfl rfl) ?_
  exact ⟨rfl, rfl⟩
abbrev mkH (n bst s t nb u g sg cap' base last lb q am im : Nat) (be : List MapEntry) (bc : Nat) (le : List MapEntry) (lc : Nat) (fv : Value) (Hr : Heap) (rest' : List Value) (d db gb : Nat) (wrc : Int) (D : List ByteArray) (rest : List Value) : Hs :=
  [[(bst, .cells (stOf d n 3 sg (rng n).length cap' lb (0 + 1) (secM (xF 0 1)) 0 0 0 base last s t nb u g).cells 92 (0, 0))]] ++ nows s t nb u g ++
          [[(sg, .cells (ints (rng n) ++ rest') 3 (0, 0))], [(base, .map be bc)], [(last, .map le lc)], [(lb, .cells (lcell d n 3 (cpS (xF 0 1) 0) fv) 190 (0, 0))], Hr, [(d, .cells (dcell nilRest db (48 + 32 * n) nils wrc) 114 (0, 0))], [(db, .cells (dcells D) 137 (0, 0))],
            [(q, .cells (stcells nd1 (sec0 0 1) am im) 108 (0, 0))], [(am, .map [] 0)], [(im, .map [] 0)], [(gb, .cells (ints (rng n) ++ rest) 3 (0, 0))]]
theorem Make1 (n : Nat) (hn : 8 ≤ n ∧ n ≤ 500) (hen : 4 + n / 8 ≤ (emptyL [] 0 0 (rng n)).length) :
    Sp Tryz.prog 17 #[i64 n] [] (fun v H => ∃ bst s t nb u g sg cap' base last lb q am im be bc le lc fv Hr rest' d db gb wrc D rest cap, v = .tuple #[ptr d 0, ptr bst 0, slc gb 0 (rng n).length cap] ∧ MapOK ki kp [(1, q)] be bc ∧ MapOK ki ki (aset (aset [] (slF 0 1).seg (slF 0 1).seq) (xF 0 1).seg (xF 0 1).seq) le lc ∧ Sl 3 1 fv (emptyL [(segOf (sec0 0 1), 1)] (xF 0 1).seg (xF 0 1).next (rng n)).length (ints (emptyL [(segOf (sec0 0 1), 1)] (xF 0 1).seg (xF 0 1).next (rng n))) Hr ∧
        H = mkH n bst s t nb u g sg cap' base last lb q am im be bc le lc fv Hr rest' d db gb wrc D rest) := by
  refine Sp.intro Tryz.func17 rfl rfl rfl fun w K => ?_
  (try refine wk ?_); (repeat (intro b; (try refine wk ?_)))
  refine J.cl (New (48 + 32 * n) (by omega) (by omega)) ?_
  have hSn : (48 + 32 * (n : Int)).toNat = 48 + 32 * n := by omega
  rintro _ _ ⟨d, db, rfl, rfl⟩; refine J.pn ?_
  rw [hSn]
  (try refine wk ?_); (repeat (intro b; (try refine wk ?_)))
  refine J.pick [0, 2, 3, 4, 5, 6, 7] rfl ?_
  refine J.loop (α := Nat × Value × Heap) (fun z => [(0, i64 n), (2, .pointer none), (3, .pointer none), (4, nils), (5, ptr d 0), (6, z.2.1), (7, i64 z.1)]) (fun z => [z.2.2, [(d, .cells (dcell nilRest db (48 + 32 * n) nils 0) 114 (0, 0))], [(db, .cells (List.replicate (256 * (48 + 32 * n)) (.int .u8 0)) 137 (0, 0))]]) (fun z => z.1 ≤ n ∧ Sl 3 1 z.2.1 z.1 (ints (rng z.1)) z.2.2) (fun z => n - z.1) (0, nils, []) ⟨Nat.zero_le _, by exact Sl.nil 3 1⟩ (fun _ _ h => h) rfl ?_
  rintro ⟨k, v, Hv⟩ ⟨hk, hs⟩
  simp only at hk hs
  by_cases hkn : k < n
  · have hki : (k : Int) < n := by omega
    obtain ⟨vp, vc, rfl⟩ := Sl.slice hs
    (try refine wk ?_); (repeat (intro b; (try refine wk ?_)))
    refine J.op rfl ?_; refine J.isBuildSlice ?_; refine J.buildSl [i64 k] (cs := [i64 k]) rfl rfl rfl rfl rfl (fun v hv => by rw [List.mem_singleton.1 hv]; rfl) rfl rfl rfl ?_
    intro bn
    refine J.front 1 rfl rfl ?_
    refine J.nm ?_
    refine J.op rfl ?_; refine J.isBuiltin ?_; refine J.append (m := 1) (news := [i64 k]) 0 hs rfl rfl rfl rfl rfl (by simp [Value.oneCell']) (by simp) (by simp) ⟨by omega, by have : maxLen = 9223372036854775807 := rfl; omega⟩ rfl ?_
    intro v2 H2 h2
    rw [← List.map_singleton (f := fun x => i64 x), ← List.map_append, ← rng_succ] at h2
    have h1 := h2.one
    (try refine wk ?_); (repeat (intro b; (try refine wk ?_)))
    refine J.pick [0, 2, 3, 4, 5, 6, 7] rfl ?_
    exact J.roundT (k + 1, v2, H2) ⟨hkn, h2⟩ (by show n - (k + 1) < n - k; omega)
  · obtain rfl : k = n := by omega
    rcases hs with ⟨_, hz, _, _⟩ | ⟨gb, cap, rest, rfl, rfl, _, _, hcap, _⟩
    · omega
    obtain ⟨sr, hsr⟩ : ∃ sr, rng k = 0 :: 1 :: sr := by
      obtain ⟨m, rfl⟩ : ∃ m, k = m + 2 := ⟨k - 2, by omega⟩
      exact rng_two m
    have hlen := rng_len k
    (try refine wk ?_); (repeat (intro b; (try refine wk ?_)))
    refine J.cl (GeomOf k (by omega)) ?_
    rintro _ _ ⟨rfl, rfl⟩; refine J.pn ?_
    (try refine wk ?_); (repeat (intro b; (try refine wk ?_)))
    refine J.slot 27 (slc gb 0 (rng k).length cap) rfl (by rw [rng_len]) ?_
    refine J.slot 6 (slc gb 0 (rng k).length cap) rfl (by rw [rng_len]) ?_
    refine J.cl (Found d db k hn 3 (by omega) gb cap 0 1 sr (rng k) hsr rest (by omega) (by omega) (rng_in k) (by rw [rng_len]; exact hen) (48 + 32 * k) rfl) ?_
    rintro _ _ ⟨bst, s, t, nb, u, g, sg, cap', base, last, lb, q, am, im, be, bc, le, lc, fv, Hr, rest', D, wr, rfl, hbm, hlm, hfv, rfl⟩; refine J.pn ?_
    (try refine wk ?_); (repeat (intro b; (try refine wk ?_)))
    refine J.doneT (res3 rfl rfl rfl rfl) ⟨bst, s, t, nb, u, g, sg, cap', base, last, lb, q, am, im, be, bc, le, lc, fv, Hr, rest', d, db, gb, wr, D, rest, cap, rfl, hbm, hlm, hfv, rfl⟩
end Go.Proofs.YF
namespace Go.Proofs.YF
open Go YE Go.ChangeShapes Go.WideShapes Go.ChangeAt Go.RowKit
theorem Sp.law {f : FuncId} {args : Array Value} (h : Sp Tryz.prog f args [] (Is (.bool true))) (w : World) : Calls Tryz.prog f args w fun e w' => e = .returned (.bool true) ∧ Below w.heap.size w w' :=
  (h w ⟨fun _ _ hm => (by cases hm), (by simp [keys])⟩).mono (fun _ _ ⟨_, _, he, hp, hs⟩ => ⟨by rw [he, hp.1], hs.keep.below⟩)
theorem wf64 {a : Int} (h : (Lit.int .i64 a).wf = true) : -9223372036854775808 ≤ a ∧ a ≤ 9223372036854775807 := by
  simp only [Lit.wf, Bool.and_eq_true, decide_eq_true_eq] at h
  exact h
section
variable {P : Program} {H : Type} {enc : TypeId × Value → H}
theorem post_of_below {f : Func} {s : ChangeSpec} {apart fresh handsOn again : Bool} {W W' : World} {args : Array Value} {v : Value} {ds gs : List (DataW H)} {before pa pv : List MemPlace}
    (hW : DataW.Whole enc P f.params.toList s.vars apart W args.toList ds gs before)
    (hres : ∀ (b : Nat) (sp : Nat → Bool) (hd : Bool), DataW.TrodAll enc P W' b sp hd f.resultTypes.toList (v.resultList f.resultTypes.size) (s.fn H (ds ++ gs)).results [])
    (hargs : ∀ sp : Nat → Bool, (∀ p ∈ before, sp p.block = true) → DataW.TrodAll enc P W' 0 sp true f.params.toList args.toList (s.fn H (ds ++ gs)).args pa)
    (hvars : ∀ sp : Nat → Bool, (∀ p ∈ before, sp p.block = true) → DataW.TrodVars enc P W' sp s.vars (s.fn H (ds ++ gs)).vars pv)
    (hps : before = pa ++ pv) (hb : Below W.heap.size W W')
    (hok : ∀ (j : Nat) (t : TypeId) (r : Value), f.resultTypes[j]? = some t → (v.resultList f.resultTypes.size)[j]? = some r → Value.okWide P W' .any 0 t r) :
    s.post enc P f apart fresh handsOn again W args v W' := by
  have hlt : ∀ p ∈ before, p.block < W.heap.size := fun p hp => hW.lt p hp
  have hold : ∀ p ∈ before, (fun b => decide (b < W.heap.size)) p.block = true := fun p hp => by simpa using hW.lt p hp
  refine ⟨ds, gs, before, [], pa, pv, hW, hres _ _ _, hargs _ hold, hvars _ hold, World.keptBut_mono (fun p hp => ⟨hp, ?_⟩) (hb.frame (· ∈ before)), fun _ => ?_⟩
  · rw [hps, List.mem_append] at hp
    exact Or.inr hp
  · obtain ⟨_, _, _, _, _, hz, hn⟩ := hW
    refine ⟨hok, _, _, ([] ++ pa) ++ pv, ⟨[] ++ pa, pv, trodAll_append (hargs _ (fun _ _ => rfl)) (hres _ _ _), hvars _ (fun _ _ => rfl), rfl, ?_, ?_⟩, ?_⟩
    · intro b off hp
      have hp' : MemPlace.cell b off ∈ before := by rw [hps]; simpa using hp
      rw [hb.frozen (hlt _ hp')]
      exact hz b off hp'
    · intro ha
      have := hn ha
      rw [hps] at this
      simpa using this
    · intro p hp _
      rw [hps]
      simpa using hp
end
end Go.Proofs.YF
namespace Go.Proofs.YF
open Go YE YtoflbjncpliplaaGreat Go.ChangeShapes Go.WideShapes Go.ChangeAt Go.RowKit
theorem laid0 : laidOutB Tryz.pinned.checked.prog = true := by kernel_rfl
theorem rowed0 : mapsRowed Tryz.pinned.checked.prog = true := by kernel_rfl
theorem heard0 : Tryz.pinned.checked.prog.stopsHeard = true := by kernel_rfl
theorem enter0 : Tryz.pinned.checked.prog.mayEnter = true := by kernel_rfl
theorem lifts0 : (false == Tryz.pinned.checked.prog.liftsFinal) = true := by kernel_rfl
theorem make0 : (Tryz.pinned.checked.prog.make == some Rows.fileNoneRow.make) = true := by kernel_rfl
theorem and_t {a b : Bool} (ha : a = true) (hb : b = true) : (a && b) = true := by rw [ha, hb]; rfl
end Go.Proofs.YF
