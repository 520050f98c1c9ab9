/- Part MD of the walks that a statement of this seat is proved by: laws of memory, then the functions one by one. -/
import Derived.Test.YtoflbjncpliplaaGreatMC
namespace Go.Proofs.YF
open Go YE
attribute [local irreducible] CW LW OW XW AW PW HW RW AK HK AP HP DX CI LI OI BW RE MW J Gives
set_option maxHeartbeats 1000000
set_option maxRecDepth 20000

/-- A disk of N segments of 32 blocks. -/
abbrev gv (N : Int) : Value := .agg #[i64 (48 + 32 * N), i64 32]

/-- Nothing but a value. -/
def Is (v : Value) : Value → Hs → Prop := fun u H => u = v ∧ H = []

theorem Check (N : Int) (h1 : 8 ≤ N) (h2 : N ≤ 500) : Sp Tryz.prog 153 #[gv N] [] (Is (.bool true)) := by
  refine Sp.intro Tryz.func153 rfl rfl rfl fun w K => ?_
  (try refine wk ?_); (repeat (intro b; (try refine wk ?_)))
  refine J.clear ?_; refine J.done_ret (res1 rfl rfl) ?_; refine ⟨?_, rfl⟩
  exact congrArg Value.bool (decide_eq_true (by omega))

theorem Segs (N : Int) (h1 : 8 ≤ N) (h2 : N ≤ 500) : Sp Tryz.prog 151 #[gv N] [] (Is (i64 N)) := by
  refine Sp.intro Tryz.func151 rfl rfl rfl fun w K => ?_
  (try refine wk ?_); (repeat (intro b; (try refine wk ?_)))
  (refine J.op rfl ?_; refine J.isCallF ?_; refine J.call (Check N h1 h2) rfl rfl rfl rfl ?_; rintro _ _ ⟨rfl, rfl⟩; refine J.pn ?_)
  (try refine wk ?_); (repeat (intro b; (try refine wk ?_)))
  refine J.clear ?_; refine J.done_ret (res1 rfl rfl) ?_; refine ⟨?_, rfl⟩
  exact congrArg i64 (by omega)

/-- A segment's first sector. -/
def start (N seg : Int) : Int := if 0 ≤ seg ∧ seg < N then 48 + seg * 32 else 0

theorem Start (N seg : Int) (h1 : 8 ≤ N) (h2 : N ≤ 500) : Sp Tryz.prog 111 #[gv N, i64 seg] [] (Is (i64 (start N seg))) := by
  refine Sp.intro Tryz.func111 rfl rfl rfl fun w K => ?_
  unfold start
  by_cases ha : seg < 0
  · (try refine wk ?_); (repeat (intro b; (try refine wk ?_)))
    refine J.clear ?_; refine J.done_ret (res1 rfl rfl) ?_; refine ⟨?_, rfl⟩
    rw [if_neg (by omega)]
  · (try refine wk ?_); (repeat (intro b; (try refine wk ?_)))
    · refine J.want rfl rfl rfl ?_
      (refine J.isCallF ?_; refine J.call (Segs N h1 h2) rfl rfl rfl rfl ?_; rintro _ _ ⟨rfl, rfl⟩; refine J.pn ?_)
      by_cases hb : seg < N
      · (try refine wk ?_); (repeat (intro b; (try refine wk ?_)))
        refine J.clear ?_; refine J.done_ret (res1 rfl rfl) ?_; refine ⟨?_, rfl⟩
        rw [if_pos (by omega)]
      · (try refine wk ?_); (repeat (intro b; (try refine wk ?_)))
        refine J.clear ?_; refine J.done_ret (res1 rfl rfl) ?_; refine ⟨?_, rfl⟩
        rw [if_neg (by omega)]

/-- Which block of which segment a sector is. -/
def atv (N s : Int) : Value := if 48 ≤ s ∧ s < 48 + N * 32 then .tuple #[i64 ((s - 48) / 32), i64 ((s - 48) % 32), .bool true] else .tuple #[i64 0, i64 0, .bool false]

theorem SlotAt (house copy : Int) (h1 : 1 ≤ house) (h2 : house ≤ 16) (h3 : 0 ≤ copy) (h4 : copy ≤ 1) : Sp Tryz.prog 181 #[i64 house, i64 copy] [] (Is (i64 (16 + 2 * (house - 1) + copy))) := by
  refine Sp.intro Tryz.func181 rfl rfl rfl fun w K => ?_
  (try refine wk ?_); (repeat (intro b; (try refine wk ?_)))
  refine J.clear ?_; refine J.done_ret (res1 rfl rfl) ?_; refine ⟨?_, rfl⟩
  rfl
theorem In (v a b : Int) : Sp Tryz.prog 103 #[i64 v, i64 a, i64 b] [] (Is (.bool (decide (a ≤ v) && decide (v ≤ b)))) := by
  refine Sp.intro Tryz.func103 rfl rfl rfl fun w K => ?_
  by_cases h1 : a ≤ v
  · by_cases h2 : v ≤ b
    · (try refine wk ?_); (repeat (intro b; (try refine wk ?_)))
      refine J.clear ?_; refine J.done_ret (res1 rfl rfl) ?_; refine ⟨?_, rfl⟩
      simp [h1, h2]
    · (try refine wk ?_); (repeat (intro b; (try refine wk ?_)))
      refine J.clear ?_; refine J.done_ret (res1 rfl rfl) ?_; refine ⟨?_, rfl⟩
      simp [h1, h2]
  · (try refine wk ?_); (repeat (intro b; (try refine wk ?_)))
    refine J.clear ?_; refine J.done_ret (res1 rfl rfl) ?_; refine ⟨?_, rfl⟩
    simp [h1]

theorem At (N s : Int) (h1 : 8 ≤ N) (h2 : N ≤ 500) (h3 : 0 ≤ s) (h4 : s ≤ 100000) : Sp Tryz.prog 102 #[gv N, i64 s] [] (Is (atv N s)) := by
  refine Sp.intro Tryz.func102 rfl rfl rfl fun w K => ?_
  unfold atv
  by_cases ha : s < 48
  · (try refine wk ?_); (repeat (intro b; (try refine wk ?_)))
    refine J.any Tryz.mixed [[(b, .cells [i64 (48 + 32 * N), i64 32] 61 (0, 0))]] ?_
    refine J.tk 0 ?_
    refine J.tk 1 ?_
    refine J.tk 2 ?_
    (first | refine J.tkW 3 ?_ | refine J.tkE 3 ?_ | refine J.tkN 3 ?_ | refine J.tkX 3 ?_ | refine J.tkU 3 ?_)
    (first | refine J.tkW 4 ?_ | refine J.tkE 4 ?_ | refine J.tkN 4 ?_ | refine J.tkX 4 ?_ | refine J.tkU 4 ?_)
    (first | refine J.tkN 5 ?_ | refine J.tkX 5 ?_ | refine J.tkU 5 ?_)
    (first | refine J.tkW 6 ?_ | refine J.tkE 6 ?_ | refine J.tkN 6 ?_ | refine J.tkX 6 ?_ | refine J.tkU 6 ?_)
    (first | refine J.tkW 7 ?_ | refine J.tkE 7 ?_ | refine J.tkN 7 ?_ | refine J.tkX 7 ?_ | refine J.tkU 7 ?_)
    (first | refine J.tkW 8 ?_ | refine J.tkE 8 ?_ | refine J.tkN 8 ?_ | refine J.tkX 8 ?_ | refine J.tkU 8 ?_)
    (first | refine J.tkW 9 ?_ | refine J.tkE 9 ?_ | refine J.tkN 9 ?_ | refine J.tkX 9 ?_ | refine J.tkU 9 ?_)
    (first | refine J.tkW 10 ?_ | refine J.tkE 10 ?_ | refine J.tkN 10 ?_ | refine J.tkX 10 ?_ | refine J.tkU 10 ?_)
    refine J.tk 11 ?_
    refine J.al ?_
    (try refine wk ?_); (repeat (intro b; (try refine wk ?_)))
    refine J.clear ?_; refine J.done_ret (res3 rfl rfl rfl rfl) ?_; refine ⟨?_, rfl⟩
    rw [if_neg (by omega)]
  · (try refine wk ?_); (repeat (intro b; (try refine wk ?_)))
    refine J.any Tryz.mixed [[(b, .cells [i64 (48 + 32 * N), i64 32] 61 (0, 0))]] ?_
    refine J.tk 0 ?_
    refine J.tk 1 ?_
    refine J.tk 2 ?_
    (first | refine J.tkW 3 ?_ | refine J.tkE 3 ?_ | refine J.tkN 3 ?_ | refine J.tkX 3 ?_ | refine J.tkU 3 ?_)
    (first | refine J.tkW 4 ?_ | refine J.tkE 4 ?_ | refine J.tkN 4 ?_ | refine J.tkX 4 ?_ | refine J.tkU 4 ?_)
    (first | refine J.tkW 6 ?_ | refine J.tkE 6 ?_ | refine J.tkN 6 ?_ | refine J.tkX 6 ?_ | refine J.tkU 6 ?_)
    (first | refine J.tkW 7 ?_ | refine J.tkE 7 ?_ | refine J.tkN 7 ?_ | refine J.tkX 7 ?_ | refine J.tkU 7 ?_)
    (first | refine J.onW 5 ?_ | refine J.onE 5 ?_) -- call
    (refine J.isCallF ?_; refine J.call (H1 := []) (Segs N h1 h2) rfl rfl rfl rfl ?_; rintro _ _ ⟨rfl, rfl⟩; refine J.put rfl ?_; refine J.held (Sub.cons 0 rfl Sub.nil) ?_; refine J.nm ?_)
    (first | refine J.tkW 8 ?_ | refine J.tkE 8 ?_ | refine J.tkN 8 ?_ | refine J.tkX 8 ?_ | refine J.tkU 8 ?_)
    (first | refine J.tkW 9 ?_ | refine J.tkE 9 ?_ | refine J.tkN 9 ?_ | refine J.tkX 9 ?_ | refine J.tkU 9 ?_)
    (first | refine J.tkW 10 ?_ | refine J.tkE 10 ?_ | refine J.tkN 10 ?_ | refine J.tkX 10 ?_ | refine J.tkU 10 ?_)
    refine J.tk 11 ?_
    refine J.al ?_
    by_cases hb : s < 48 + N * 32
    · (try refine wk ?_); (repeat (intro b; (try refine wk ?_)))
      refine J.any Tryz.mixed [[(b, .cells [i64 (48 + 32 * N), i64 32] 61 (0, 0))]] ?_
      refine J.tk 0 ?_
      refine J.tk 1 ?_
      refine J.tk 2 ?_
      refine J.tk 3 ?_
      refine J.tk 4 ?_
      refine J.tk 5 ?_
      refine J.tk 6 ?_
      refine J.tk 7 ?_
      refine J.tk 8 ?_
      refine J.tk 9 ?_
      refine J.tk 10 ?_
      refine J.tk 11 ?_
      refine J.tk 12 ?_
      refine J.al ?_
      (try refine wk ?_); (repeat (intro b; (try refine wk ?_)))
      refine J.clear ?_; refine J.done_ret (res3 rfl rfl rfl rfl) ?_; refine ⟨?_, rfl⟩
      rw [if_pos (by omega)]
    · (try refine wk ?_); (repeat (intro b; (try refine wk ?_)))
      refine J.clear ?_; refine J.done_ret (res3 rfl rfl rfl rfl) ?_; refine ⟨?_, rfl⟩
      rw [if_neg (by omega)]

theorem Room (N k : Int) (h1 : 8 ≤ N) (h2 : N ≤ 500) (h3 : 4 ≤ k) (h4 : k ≤ 500) : Sp Tryz.prog 108 #[gv N, .agg #[i64 k, i64 0, i64 0, i64 0, i64 0, i64 0, i64 0]] [] (Is (i64 ((k - 4) * 8))) := by
  refine Sp.intro Tryz.func108 rfl rfl rfl fun w K => ?_
  (try refine wk ?_); (repeat (intro b; (try refine wk ?_)))
  (refine J.op rfl ?_; refine J.isCallF ?_; refine J.call (Check N h1 h2) rfl rfl rfl rfl ?_; rintro _ _ ⟨rfl, rfl⟩; refine J.pn ?_)
  (try refine wk ?_); (repeat (intro b; (try refine wk ?_)))
  refine J.clear ?_; refine J.done_ret (res1 rfl rfl) ?_; refine ⟨?_, rfl⟩
  exact congrArg i64 (by omega)
end Go.Proofs.YF
namespace Go.Proofs
open YE
instance : Zero Tryz.prog 137 (.agg (List.replicate 256 (.int .u8 0)).toArray) := ⟨by kernel_rfl⟩
instance : Zero Tryz.prog 139 (.agg (.int .i64 0 :: .int .i64 0 :: List.replicate 256 (.int .u8 0)).toArray) := ⟨by kernel_rfl⟩
instance : ZeroC Tryz.prog 139 (.int .i64 0 :: .int .i64 0 :: List.replicate 256 (.int .u8 0)) := ⟨by kernel_rfl⟩
instance : InfoOf Tryz.prog 139 (.int .i64 0 :: .int .i64 0 :: List.replicate 256 (.int .u8 0)) 258 272 := ⟨by kernel_rfl⟩
end Go.Proofs
namespace Go.Proofs.YE
theorem Sl.one {e sz : Nat} {v : Value} {n : Nat} {cs : List Value} {Hx : Heap} (h : Sl e sz v n cs Hx) : v.oneCell' = true := by
  rcases h with ⟨rfl, _⟩ | ⟨b, cap, rest, rfl, _⟩ <;> rfl
end Go.Proofs.YE
namespace Go.Proofs.YF
open Go YE
attribute [local irreducible] CW LW OW XW AW PW HW RW AK HK AP HP DX CI LI OI BW RE MW J Gives
set_option maxHeartbeats 1000000
set_option maxRecDepth 20000

/-- The writes that wait of all but the owner 2. -/
structure Rest where (w0 w1 w3 w4 w5 w6 w7 w8 w9 w10 w11 w12 w13 w14 w15 w16 : Value)

/-- The disk's own cells. -/
abbrev dcell (t : Rest) (db S : Nat) (wv : Value) (wr : Int) : List Value :=
  [slc db 0 S S, t.w0, t.w1, wv, t.w3, t.w4, t.w5, t.w6, t.w7, t.w8, t.w9, t.w10, t.w11, t.w12, t.w13, t.w14, t.w15, t.w16, i64 wr, i64 (-1), .bool false]

theorem Down (d : Nat) (t : Rest) (db S : Nat) (wv : Value) (wr : Int) : Sp Tryz.prog 54 #[ptr d 0] [[(d, .cells (dcell t db S wv wr) 114 (0, 0))]] (fun v H => v = .bool false ∧ H = [[(d, .cells (dcell t db S wv wr) 114 (0, 0))]]) := by
  refine Sp.intro Tryz.func54 rfl rfl rfl fun w K => ?_
  (try refine wk ?_); (repeat (intro b; (try refine wk ?_)))
  refine J.done_ret (res1 rfl rfl) ?_; exact ⟨rfl, rfl⟩
theorem NoneAt (d : Nat) (t : Rest) (db S : Nat) (wv : Value) (wr : Int) (i : Int) : Sp Tryz.prog 121 #[ptr d 0, i64 i] [[(d, .cells (dcell t db S wv wr) 114 (0, 0))]] (fun v H => v = .bool (decide (i < 0 ∨ (S : Int) ≤ i)) ∧ H = [[(d, .cells (dcell t db S wv wr) 114 (0, 0))]]) := by
  refine Sp.intro Tryz.func121 rfl rfl rfl fun w K => ?_
  by_cases h : i < 0
  · (try refine wk ?_); (repeat (intro b; (try refine wk ?_)))
    refine J.done_ret (res1 rfl rfl) ?_; refine ⟨?_, rfl⟩
    simp [h]
  · (try refine wk ?_); (repeat (intro b; (try refine wk ?_)))
    refine J.done_ret (res1 rfl rfl) ?_; refine ⟨?_, rfl⟩
    simp [h]
theorem Nobody (i : Int) : Sp Tryz.prog 137 #[i64 i] [] (Is (.bool (decide (i < 0 ∨ 16 < i)))) := by
  refine Sp.intro Tryz.func137 rfl rfl rfl fun w K => ?_
  by_cases h : i < 0
  · (try refine wk ?_); (repeat (intro b; (try refine wk ?_)))
    refine J.clear ?_; refine J.done_ret (res1 rfl rfl) ?_; refine ⟨?_, rfl⟩
    simp [h]
  · (try refine wk ?_); (repeat (intro b; (try refine wk ?_)))
    refine J.clear ?_; refine J.done_ret (res1 rfl rfl) ?_; refine ⟨?_, rfl⟩
    simp [h]
end Go.Proofs.YF
namespace Go.Proofs.YF
open Go YE
attribute [local irreducible] CW LW OW XW AW PW HW RW AK HK AP HP DX CI LI OI BW RE MW J Gives
set_option maxHeartbeats 1000000
set_option maxRecDepth 20000

theorem splice_all {l vs : List Value} (h : l.length = vs.length) : splice l 0 vs = vs := by
  simp [splice, h]
theorem splice_end {a l vs : List Value} (h : l.length = vs.length) : splice (a ++ l) a.length vs = a ++ vs := by
  simp [splice, h]
def z256 : List Value := List.replicate 256 (.int .u8 0)
theorem z256_len : z256.length = 256 := List.length_replicate
theorem z256_one : ∀ v, v ∈ z256 → v.oneCell' = true := fun v hv => by rw [(List.mem_replicate.1 hv).2]; rfl
theorem madeCells_rep (z : Value) (m n : Nat) : (madeCells (Value.agg (List.replicate m z).toArray).cells (n * m)).toList = List.replicate (n * m) z := by
  simp only [madeCells, Value.cells, Array.toList_map, Array.toList_range]
  refine List.eq_replicate_iff.2 ⟨by simp, fun b hb => ?_⟩
  obtain ⟨i, hi, rfl⟩ := List.mem_map.1 hb
  have : 0 < m := by
    rcases Nat.eq_zero_or_pos m with h | h
    · subst h; simp at hi
    · exact h
  have := Nat.mod_lt i this
  simp [this]
def nilRest : Rest := ⟨nils, nils, nils, nils, nils, nils, nils, nils, nils, nils, nils, nils, nils, nils, nils, nils⟩
theorem New (S : Int) (h1 : 1 ≤ S) (h2 : S ≤ 16384) : Sp Tryz.prog 40 #[i64 S] [] (fun v H => ∃ d db, v = ptr d 0 ∧
    H = [[(d, .cells (dcell nilRest db S.toNat nils 0) 114 (0, 0))], [(db, .cells (List.replicate (256 * S.toNat) (.int .u8 0)) 137 (0, 0))]]) := by
  refine Sp.intro Tryz.func40 rfl rfl rfl fun w K => ?_
  (try refine wk ?_); (repeat (intro b; (try refine wk ?_)))
  refine J.op rfl ?_; refine J.isMakeSlice ?_; refine J.makeSl rfl rfl rfl ?_ rfl rfl ?_
  · omega
  intro db
  refine J.op rfl ?_; refine J.isBuild ?_; refine J.give (Gives.build (vs := [(0, slc db 0 (max 1 (min S 16384)).toNat (max 1 (min S 16384)).toNat), (3, i64 (-1))]) (cells := (dcell nilRest db (max 1 (min S 16384)).toNat nils 0).toArray) rfl rfl rfl) rfl rfl ?_
  (try refine wk ?_); (repeat (intro b; (try refine wk ?_)))
  refine J.done_ret (res1 rfl rfl) ?_
  have e : max 1 (min S 16384) = S := by omega
  rw [e]
  refine ⟨b, db, rfl, ?_⟩
  rw [madeCells_rep, Nat.mul_comm]

/-- The cells of writes that wait: when, where, what. -/
def wcell (x : Int × Int × ByteArray) : List Value := i64 x.1 :: i64 x.2.1 :: bv x.2.2
def wcells (ws : List (Int × Int × ByteArray)) : List Value := ws.flatMap wcell

theorem Write (d : Nat) (t : Rest) (db S : Nat) (wv : Value) (wr : Int) (i : Int) (s : ByteArray) (n : Nat) (ws : List (Int × Int × ByteArray)) (Hw : Heap) (hi : 0 ≤ i ∧ i < S) (hs : s.size = 256)
    (hw : Sl 139 258 wv n (wcells ws) Hw) (hn : n ≤ 1000000) (hwr : 0 ≤ wr ∧ wr ≤ 1000000000) :
    Sp Tryz.prog 127 #[ptr d 0, i64 2, i64 i, .string s] [[(d, .cells (dcell t db S wv wr) 114 (0, 0))], Hw]
      (fun v H => v = .bool true ∧ ∃ wv' Hw', Sl 139 258 wv' (n + 1) (wcells (ws ++ [(wr, i, s)])) Hw' ∧ H = [[(d, .cells (dcell t db S wv' (wr + 1)) 114 (0, 0))], Hw']) := by
  refine Sp.intro Tryz.func127 rfl rfl rfl fun w K => ?_
  (try refine wk ?_); (repeat (intro b; (try refine wk ?_)))
  refine J.want rfl rfl rfl ?_
  (refine J.isCallF ?_; refine J.call (H1 := []) (Nobody 2) rfl rfl rfl rfl ?_; rintro _ _ ⟨rfl, rfl⟩; refine J.put rfl ?_; refine J.nm ?_)
  (try refine wk ?_); (repeat (intro b; (try refine wk ?_)))
  (refine J.slot 18 (.bool false) rfl rfl ?_)
  (try refine wk ?_); (repeat (intro b; (try refine wk ?_)))
  refine J.want rfl rfl rfl ?_
  (refine J.isCallF ?_; refine J.call (NoneAt d t db S wv wr i) rfl rfl rfl rfl ?_; rintro _ _ ⟨rfl, rfl⟩; refine J.put rfl ?_; refine J.nm ?_)
  (try refine wk ?_); (repeat (intro b; (try refine wk ?_)))
  refine J.op rfl ?_; refine J.isBuild ?_; refine J.give (Gives.build (vs := [(0, i64 wr), (1, i64 i)]) (cells := (i64 wr :: i64 i :: z256).toArray) rfl rfl rfl) rfl rfl ?_
  refine J.op rfl ?_; refine J.isAlloc ?_; refine J.alloc rfl rfl rfl ?_; intro bw
  refine J.op rfl ?_; refine J.isStore ?_; refine J.storeA (m := 258) 0 rfl rfl rfl rfl ?_ rfl rfl rfl rfl (H' := [[(bw, .cells (i64 wr :: i64 i :: z256) 139 (0, 0))], [(d, .cells (dcell t db S wv wr) 114 (0, 0))], Hw]) ?_ ?_
  · intro v hv
    rcases List.mem_cons.1 hv with rfl | hv
    · rfl
    rcases List.mem_cons.1 hv with rfl | hv
    · rfl
    exact z256_one v hv
  · rw [splice_all (l := i64 0 :: i64 0 :: List.replicate 256 (.int .u8 0)) (vs := i64 wr :: i64 i :: z256) (by simp [z256_len])]; rfl
  (try refine wk ?_); (repeat (intro b; (try refine wk ?_)))
  refine J.op rfl ?_; refine J.isBuiltin ?_; refine J.copyS 0 rfl rfl hs rfl (by simp [z256_len]) rfl rfl ?_
  refine J.norm (H' := [[(bw, .cells (i64 wr :: i64 i :: bv s) 139 (0, 0))], [(d, .cells (dcell t db S wv wr) 114 (0, 0))], Hw]) ?_ ?_
  · have : splice (i64 wr :: i64 i :: z256) 2 (bv s) = i64 wr :: i64 i :: bv s := splice_end (a := [i64 wr, i64 i]) (l := z256) (by rw [bv_len, hs]; exact z256_len)
    simp only [this, List.set]
  (try refine wk ?_); (repeat (intro b; (try refine wk ?_)))
  have hlen : (i64 wr :: i64 i :: bv s).length = 258 := by simp [bv_len, hs]
  have hl1 : Nat.ble (0 + 258) (i64 wr :: i64 i :: bv s).length = true := by rw [hlen]; rfl
  have hr1 : ((i64 wr :: i64 i :: bv s).drop 0).take 258 = i64 wr :: i64 i :: bv s := by rw [List.drop_zero, ← hlen]; exact List.take_length
  have hone : ∀ v, v ∈ (i64 wr :: i64 i :: bv s) → v.oneCell' = true := by
    intro v hv
    rcases List.mem_cons.1 hv with rfl | hv
    · rfl
    rcases List.mem_cons.1 hv with rfl | hv
    · rfl
    exact bv_one s v hv
  refine J.anyK Tryz.mixed [[(d, .cells (dcell t db S wv wr) 114 (0, 0))], [(bw, .cells (i64 wr :: i64 i :: bv s) 139 (0, 0))]] 14 ?_
  refine J.tkF 0 ?_
  refine J.tkF 1 ?_
  refine J.tkF 2 ?_
  refine J.tkF 3 ?_
  refine J.tkF 4 ?_
  refine J.tkF 5 ?_
  (first | refine J.tkF 6 ?_ | (refine J.tkFO 6 ?_; first | refine J.giveT (Gives.loadA 1 rfl rfl rfl hl1 hr1) rfl rfl ?_))
  (first | refine J.tkK 7 [7, 10, 13, 14] ?_ | (refine J.tkKO 7 [7, 10, 13, 14] ?_; first | refine J.giveT (Gives.loadA 1 rfl rfl rfl hl1 hr1) rfl rfl ?_))
  (first | refine J.tkK 8 [8, 9, 10, 13, 14] ?_ | (refine J.tkKO 8 [8, 9, 10, 13, 14] ?_; first | refine J.giveT (Gives.loadA 1 rfl rfl rfl hl1 hr1) rfl rfl ?_))
  refine J.tkF 11 ?_
  refine J.tkF 12 ?_
  refine J.onK 9 ?_ -- buildSlice
  refine J.isBuildSlice ?_; refine J.buildSl [.agg (i64 wr :: i64 i :: bv s).toArray] (cs := i64 wr :: i64 i :: bv s) rfl rfl rfl rfl rfl ?_ ?_ rfl rfl ?_
  · intro v hv
    rw [List.mem_singleton.1 hv]
    simpa [Value.cells] using hlen
  · simp [Value.cells]
  intro bn
  refine J.heldK (Sub.cons 2 rfl (Sub.cons 1 rfl Sub.nil)) ?_
  refine J.onK 10 ?_ -- call
  refine J.front 3 rfl rfl ?_
  refine J.nm ?_
  refine J.isBuiltin ?_; refine J.append 0 hw rfl rfl rfl hlen hr1 hone (by simp) (by simp) ?_ rfl ?_
  · constructor
    · omega
    · have : maxLen = 9223372036854775807 := rfl
      omega
  intro wv' Hw' hw'
  refine J.heldK (Sub.cons 3 rfl (Sub.cons 2 rfl Sub.nil)) ?_
  refine J.tkF 13 ?_
  refine J.onK 14 ?_ -- store
  have hwv := hw'.one
  (refine wo ?_; (try intro b))
  refine J.pastK (by kernel_rfl) ?_
  refine J.allK (by kernel_rfl) ?_
  (try refine wk ?_); (repeat (intro b; (try refine wk ?_)))
  refine J.front 3 rfl rfl ?_
  refine J.first 2 rfl ?_
  refine J.nm ?_
  refine J.done_ret (res1 rfl rfl) ?_
  refine ⟨rfl, wv', Hw', ?_, rfl⟩
  have : wcells (ws ++ [(wr, i, s)]) = wcells ws ++ (i64 wr :: i64 i :: bv s) := by simp [wcells, wcell]
  rw [this]; exact hw'
end Go.Proofs.YF
namespace Go.Proofs.YF
open Go YE
attribute [local irreducible] CW LW OW XW AW PW HW RW AK HK AP HP DX CI LI OI BW RE MW J Gives
set_option maxHeartbeats 1000000
set_option maxRecDepth 20000

def dcells (D : List ByteArray) : List Value := D.flatMap bv
def Secs (S : Nat) (D : List ByteArray) : Prop := D.length = S ∧ ∀ s, s ∈ D → s.size = 256
def Wok (S : Nat) (ws : List (Int × Int × ByteArray)) : Prop := ∀ x, x ∈ ws → 0 ≤ x.2.1 ∧ x.2.1 < S ∧ x.2.2.size = 256
def flush (D : List ByteArray) (ws : List (Int × Int × ByteArray)) : List ByteArray := ws.foldl (fun D x => D.set x.2.1.toNat x.2.2) D

theorem flat_len {α : Type} {f : α → List Value} {m : Nat} : ∀ (l : List α), (∀ x, x ∈ l → (f x).length = m) → (l.flatMap f).length = l.length * m := by
  intro l
  induction l with
  | nil => intro _; simp
  | cons x r ih =>
    intro h
    simp only [List.flatMap_cons, List.length_append, List.length_cons, h x (by simp), ih (fun y hy => h y (by simp [hy])), Nat.succ_mul]
    omega
theorem flat_take {α : Type} {f : α → List Value} {m : Nat} : ∀ (l : List α) (k : Nat) (x : α) (rest : List Value), (∀ x, x ∈ l → (f x).length = m) → l[k]? = some x → ((l.flatMap f ++ rest).drop (k * m)).take m = f x := by
  intro l
  induction l with
  | nil => intro k x rest _ h; simp at h
  | cons y r ih =>
    intro k x rest h hk
    have hy := h y (by simp)
    cases k with
    | zero =>
      simp only [List.getElem?_cons_zero, Option.some.injEq] at hk
      subst hk
      simp only [List.flatMap_cons, Nat.zero_mul, List.drop_zero, List.append_assoc]
      rw [← hy]; exact List.take_left
    | succ k =>
      simp only [List.getElem?_cons_succ] at hk
      have e : (k + 1) * m = (f y).length + k * m := by rw [hy, Nat.succ_mul]; omega
      simp only [List.flatMap_cons, List.append_assoc, e]
      rw [← List.drop_drop, List.drop_left]
      exact ih k x rest (fun z hz => h z (by simp [hz])) hk
theorem flat_splice {α : Type} {f : α → List Value} {m : Nat} : ∀ (l : List α) (k : Nat) (x : α), (∀ x, x ∈ l → (f x).length = m) → (f x).length = m → k < l.length → splice (l.flatMap f) (k * m) (f x) = (l.set k x).flatMap f := by
  intro l
  induction l with
  | nil => intro k x _ _ h; simp at h
  | cons y r ih =>
    intro k x h hx hk
    have hy := h y (by simp)
    cases k with
    | zero =>
      simp only [splice, Nat.zero_mul, List.take_zero, List.nil_append, Nat.zero_add, List.flatMap_cons, List.set_cons_zero, hx]
      rw [← hy, List.drop_left]
    | succ k =>
      have e : (k + 1) * m = (f y).length + k * m := by rw [hy, Nat.succ_mul]; omega
      have := ih k x (fun z hz => h z (by simp [hz])) hx (by simpa using hk)
      simp only [splice] at this ⊢
      simp only [List.flatMap_cons, List.set_cons_succ, e, Nat.add_assoc]
      rw [List.take_length_add_append, List.append_assoc, List.append_assoc, List.drop_length_add_append, ← this]
      simp
theorem wcell_len {x : Int × Int × ByteArray} (h : x.2.2.size = 256) : (wcell x).length = 258 := by simp [wcell, bv_len, h]
theorem Secs.set {S : Nat} {D : List ByteArray} (h : Secs S D) (k : Nat) {s : ByteArray} (hs : s.size = 256) : Secs S (D.set k s) := by
  refine ⟨by simp [h.1], fun x hx => ?_⟩
  rcases List.mem_or_eq_of_mem_set hx with h1 | h1
  · exact h.2 x h1
  · rw [h1]; exact hs
theorem Secs.flush {S : Nat} : ∀ (ws : List (Int × Int × ByteArray)) (D : List ByteArray), Secs S D → Wok S ws → Secs S (flush D ws) := by
  intro ws
  induction ws with
  | nil => intro D h _; exact h
  | cons x r ih => intro D h hw; exact ih _ (h.set _ (hw x (by simp)).2.2) (fun y hy => hw y (by simp [hy]))
theorem flush_take {D : List ByteArray} {ws : List (Int × Int × ByteArray)} {k : Nat} {x : Int × Int × ByteArray} (h : ws[k]? = some x) : flush D (ws.take (k + 1)) = (flush D (ws.take k)).set x.2.1.toNat x.2.2 := by
  have : ws.take (k + 1) = ws.take k ++ [x] := by rw [List.take_add_one, h]; rfl
  rw [this, flush, List.foldl_append]; rfl

theorem Flush (d : Nat) (t : Rest) (db S : Nat) (wv : Value) (wr : Int) (n : Nat) (D : List ByteArray) (ws : List (Int × Int × ByteArray)) (Hw : Heap) (hD : Secs S D) (hS : S ≤ 20000) (hwo : Wok S ws)
    (hw : Sl 139 258 wv n (wcells ws) Hw) (hn : n ≤ 1000000) :
    Sp Tryz.prog 91 #[ptr d 0, i64 2] [[(d, .cells (dcell t db S wv wr) 114 (0, 0))], [(db, .cells (dcells D) 137 (0, 0))], Hw]
      (fun v H => v = .bool true ∧ H = [[(d, .cells (dcell t db S nils wr) 114 (0, 0))], [(db, .cells (dcells (flush D ws)) 137 (0, 0))]]) := by
  refine Sp.intro Tryz.func91 rfl rfl rfl fun w K => ?_
  have hlen : ws.length = n := by
    have h1 := hw.len
    have h2 := flat_len (f := wcell) (m := 258) ws (fun x hx => wcell_len (hwo x hx).2.2)
    unfold wcells at h1; omega
  (try refine wk ?_); (repeat (intro b; (try refine wk ?_)))
  refine J.want rfl rfl rfl ?_
  (refine J.isCallF ?_; refine J.call (H1 := []) (Nobody 2) rfl rfl rfl rfl ?_; rintro _ _ ⟨rfl, rfl⟩; refine J.put rfl ?_; refine J.nm ?_)
  rcases hw with ⟨rfl, h0, _, rfl⟩ | ⟨bw, cap, rest, rfl, rfl, h1, h2, h3, h4⟩
  · have : ws = [] := List.eq_nil_of_length_eq_zero (by omega)
    subst this
    (try refine wk ?_); (repeat (intro b; (try refine wk ?_)))
    refine J.pick [0, 1, 20, 21, 22] rfl ?_
    refine J.loop (α := Unit) (fun _ => _) (fun _ => _) (fun _ => True) (fun _ => 0) () trivial (fun _ _ h => h) rfl (fun _ _ => ?_)
    (try refine wk ?_); (repeat (intro b; (try refine wk ?_)))
    refine J.first 2 rfl ?_
    refine J.done_ret (res1 rfl rfl) ?_
    exact ⟨rfl, rfl⟩
  · (try refine wk ?_); (repeat (intro b; (try refine wk ?_)))
    refine J.pick [0, 1, 20, 21, 22] rfl ?_
    refine J.loop (α := Nat) (fun k => [(0, ptr d 0), (1, i64 2), (20, slc bw 0 n cap), (21, i64 n), (22, i64 k)]) (fun k => [[(d, .cells (dcell t db S (slc bw 0 n cap) wr) 114 (0, 0))], [(db, .cells (dcells (flush D (ws.take k))) 137 (0, 0))], [(bw, .cells (wcells ws ++ rest) 139 (0, 0))]]) (fun k => k ≤ n) (fun k => n - k) 0 (Nat.zero_le _) (fun _ _ h => h) rfl (fun k hk => ?_)
    by_cases hkn : k < n
    · have hks : (k : Int) < n := by omega
      (try refine wk ?_); (repeat (intro b; (try refine wk ?_)))
      obtain ⟨x, hx⟩ : ∃ x, ws[k]? = some x := ⟨ws[k], List.getElem?_eq_getElem (by omega)⟩
      obtain ⟨x1, x2, xs⟩ := x
      have hx' := hwo _ (List.mem_of_getElem? hx)
      simp only at hx'
      have hxl : (i64 x1 :: i64 x2 :: bv xs).length = 258 := by simp [bv_len, hx'.2.2]
      have hone : ∀ v, v ∈ (i64 x1 :: i64 x2 :: bv xs) → v.oneCell' = true := by
        intro v hv
        rcases List.mem_cons.1 hv with rfl | hv
        · rfl
        rcases List.mem_cons.1 hv with rfl | hv
        · rfl
        exact bv_one xs v hv
      have hnk : (0 + (k : Int).toNat * 258) = k * 258 := by simp
      have hl0 : Nat.ble (0 + (k : Int).toNat * 258 + 258) (wcells ws ++ rest).length = true := by
        rw [hnk, h2]; simp only [Nat.ble_eq]
        have : (k + 1) * 258 ≤ cap * 258 := Nat.mul_le_mul_right _ (by omega)
        omega
      have hr0 : ((wcells ws ++ rest).drop (0 + (k : Int).toNat * 258)).take 258 = i64 x1 :: i64 x2 :: bv xs := by
        rw [hnk]; exact flat_take (f := wcell) ws k _ rest (fun y hy => wcell_len (hwo y hy).2.2) hx
      refine J.op rfl ?_; refine J.isLoad ?_; refine J.give (Gives.loadA 2 rfl rfl rfl hl0 hr0) rfl rfl ?_
      refine J.op rfl ?_; refine J.isAlloc ?_; refine J.alloc rfl rfl rfl ?_; intro bx
      refine J.op rfl ?_; refine J.isStore ?_; refine J.storeA (m := 258) 0 rfl rfl rfl hxl hone rfl ?_ rfl rfl (H' := [[(bx, .cells (i64 x1 :: i64 x2 :: bv xs) 139 (0, 0))], [(d, .cells (dcell t db S (slc bw 0 n cap) wr) 114 (0, 0))], [(db, .cells (dcells (flush D (ws.take k))) 137 (0, 0))], [(bw, .cells (wcells ws ++ rest) 139 (0, 0))]]) ?_ ?_
      · rw [hxl]; rfl
      · rw [splice_all (l := i64 0 :: i64 0 :: List.replicate 256 (.int .u8 0)) (by rw [hxl]; simp)]; rfl
      (try refine wk ?_); (repeat (intro b; (try refine wk ?_)))
      have hl2 : Nat.ble (2 + 256) (i64 x1 :: i64 x2 :: bv xs).length = true := by rw [hxl]; rfl
      have hr2 : ((i64 x1 :: i64 x2 :: bv xs).drop 2).take 256 = bv xs := by
        rw [← hx'.2.2, ← bv_len]; exact List.take_length
      have hsec : Secs S (flush D (ws.take k)) := Secs.flush _ _ hD (fun y hy => hwo y (List.mem_of_mem_take hy))
      refine J.any Tryz.mixed [[(d, .cells (dcell t db S (slc bw 0 n cap) wr) 114 (0, 0))], [(bx, .cells (i64 x1 :: i64 x2 :: bv xs) 139 (0, 0))]] ?_
      refine J.tk 0 ?_
      refine J.tk 1 ?_
      refine J.tk 2 ?_
      (first | refine J.tk 3 ?_ | (refine J.tkO 3 ?_; first | refine J.giveT (Gives.loadA 1 rfl rfl rfl hl2 hr2) rfl rfl ?_))
      refine J.tk 4 ?_
      (first | refine J.tk 5 ?_ | (refine J.tkO 5 ?_; first | refine J.giveT (Gives.loadA 1 rfl rfl rfl hl2 hr2) rfl rfl ?_))
      refine J.tk 6 ?_
      (first | refine J.tk 7 ?_ | (refine J.tkO 7 ?_; first | refine J.giveT (Gives.loadA 1 rfl rfl rfl hl2 hr2) rfl rfl ?_))
      (first | refine J.tk 8 ?_ | (refine J.tkO 8 ?_; first | refine J.giveT (Gives.loadA 1 rfl rfl rfl hl2 hr2) rfl rfl ?_))
      refine J.on 9 ?_ -- store
      refine J.isStore ?_; refine J.storeA (m := 256) 2 rfl rfl rfl (by rw [bv_len]; exact hx'.2.2) (bv_one xs) rfl ?_ ?_ rfl (H' := [[(bx, .cells (i64 x1 :: i64 x2 :: bv xs) 139 (0, 0))], [(d, .cells (dcell t db S (slc bw 0 n cap) wr) 114 (0, 0))], [(db, .cells (dcells (flush D (ws.take (k + 1)))) 137 (0, 0))], [(bw, .cells (wcells ws ++ rest) 139 (0, 0))]]) ?_ ?_
      · have hdl : (dcells (flush D (ws.take k))).length = S * 256 := by
          rw [← hsec.1]; exact flat_len _ (fun y hy => by rw [bv_len]; exact hsec.2 y hy)
        have : (x2.toNat + 1) * 256 ≤ S * 256 := Nat.mul_le_mul_right _ (by omega)
        rw [hdl, bv_len, hx'.2.2]; simp only [Nat.ble_eq]; omega
      · simp [noFz]
      · have e := flat_splice (f := bv) (m := 256) (flush D (ws.take k)) x2.toNat xs (fun y hy => by rw [bv_len]; exact hsec.2 y hy) (by rw [bv_len]; exact hx'.2.2) (by rw [hsec.1]; omega)
        rw [Nat.zero_add, flush_take hx]
        show [[_], [_], [(db, HO.cells (splice (dcells (flush D (ws.take k))) (x2.toNat * 256) (bv xs)) 137 (0, 0))], [_]] = _
        unfold dcells
        rw [e]
      refine J.held (Sub.cons 1 rfl (Sub.cons 0 rfl Sub.nil)) ?_
      refine J.all (by kernel_rfl) ?_
      (try refine wk ?_); (repeat (intro b; (try refine wk ?_)))
      refine J.pick [0, 1, 20, 21, 22] rfl ?_
      refine J.drop 0 ?_
      exact J.round (k + 1) hkn (by omega) (fun _ _ h => h) rfl
    · (try refine wk ?_); (repeat (intro b; (try refine wk ?_)))
      have hkn : k = n := by omega
      subst hkn
      refine J.first 2 rfl ?_
      refine J.done_ret (res1 rfl rfl) ?_
      refine ⟨rfl, ?_⟩
      have : ws.take k = ws := List.take_of_length_le (by omega)
      simp only [this, List.take]
end Go.Proofs.YF
namespace Go.Proofs
open YE
instance : Byt Tryz.prog 102 5 := ⟨by kernel_rfl, by kernel_rfl⟩
instance : IntOf Tryz.prog 254 .u64 := ⟨by kernel_rfl⟩
instance : IntOf Tryz.prog 233 .u32 := ⟨by kernel_rfl⟩
end Go.Proofs
namespace Go.Proofs.YF
open Go YE
attribute [local irreducible] CW LW OW XW AW PW HW RW AK HK AP HP DX CI LI OI BW RE MW J Gives
set_option maxHeartbeats 1000000
set_option maxRecDepth 20000

def place (n m : Int) : Int := if n.tmod m < 0 then n.tmod m + m else n.tmod m
theorem Place (n m : Int) (hm : 0 < m) (hm' : m ≤ 1000000000) : Sp Tryz.prog 16 #[i64 n, i64 m] [] (Is (i64 (place n m))) := by
  refine Sp.intro Tryz.func16 rfl rfl rfl fun w K => ?_
  have h1 : n.tmod m < m := Int.tmod_lt_of_pos n hm
  have h2 : -m < n.tmod m := by
    have := Int.tmod_lt_of_pos (-n) hm
    rw [Int.neg_tmod] at this
    omega
  (try refine wk ?_); (repeat (intro b; (try refine wk ?_)))
  refine J.op rfl ?_; refine J.isBin ?_; refine J.give (Gives.remT rfl rfl rfl (by simp; omega)) rfl rfl ?_
  unfold place
  by_cases h : n.tmod m < 0
  · (try refine wk ?_); (repeat (intro b; (try refine wk ?_)))
    refine J.clear ?_; refine J.done_ret (res1 rfl rfl) ?_; refine ⟨?_, rfl⟩
    rw [if_pos h]
  · (try refine wk ?_); (repeat (intro b; (try refine wk ?_)))
    refine J.clear ?_; refine J.done_ret (res1 rfl rfl) ?_; refine ⟨?_, rfl⟩
    rw [if_neg h]

/-- Byte i of a number. -/
def lecell (v : Int) (i : Nat) : Value := .int .u8 (IntKind.u8.wrap (v.fdiv (2 ^ min (8 * (i : Int)).toNat IntKind.u64.bits)))
def lecells (v : Int) (n k : Nat) : List Value := (List.range n).map fun i => if i < k then lecell v i else .int .u8 0
theorem lecells_set (v : Int) (n k : Nat) : (lecells v n k).set k (lecell v k) = lecells v n (k + 1) := by
  apply List.ext_getElem?
  intro i
  simp only [lecells, List.getElem?_set, List.getElem?_map, List.getElem?_range, List.length_map, List.length_range]
  by_cases h : k = i
  · subst h
    by_cases hk : k < n
    · simp [hk]
    · simp [hk]
  · by_cases hi : i < n
    · simp only [h, if_false]
      by_cases h2 : i < k
      · simp [List.getElem?_range hi, h2, Nat.lt_succ_of_lt h2]
      · have : ¬ i < k + 1 := by omega
        simp [List.getElem?_range hi, h2, this]
    · simp [h, hi]
theorem lecells_len (v : Int) (n k : Nat) : (lecells v n k).length = n := by simp [lecells]

theorem Order (v : Int) (n : Int) (hn : 0 ≤ n) (hn' : n ≤ 7) : Sp Tryz.prog 187 #[.int .u64 v, i64 n] [] (fun r H => ∃ b, r = slc b 0 n.toNat n.toNat ∧ H = [[(b, .cells (lecells v n.toNat n.toNat) 5 (0, 0))]]) := by
  refine Sp.intro Tryz.func187 rfl rfl rfl fun w K => ?_
  obtain ⟨n, rfl⟩ := Int.eq_ofNat_of_zero_le hn
  simp only [Int.toNat_natCast]
  (try refine wk ?_); (repeat (intro b; (try refine wk ?_)))
  refine J.op rfl ?_; refine J.isMakeSlice ?_; refine J.makeSl rfl rfl rfl ?_ rfl rfl ?_
  · omega
  intro b
  refine J.norm (H' := [[(b, .cells (lecells v n 0) 5 (0, 0))]]) ?_ ?_
  · rw [madeCells_flat _ _ rfl]
    simp [lecells, List.map_const']
  (try refine wk ?_); (repeat (intro b; (try refine wk ?_)))
  refine J.pick [0, 5, 10, 11] rfl ?_
  refine J.loop (α := Nat) (fun k => [(0, .int .u64 v), (5, slc b 0 n n), (10, i64 n), (11, i64 k)]) (fun k => [[(b, .cells (lecells v n k) 5 (0, 0))]]) (fun k => k ≤ n) (fun k => n - k) 0 (Nat.zero_le _) (fun _ _ h => h) rfl (fun k hk => ?_)
  by_cases hkn : k < n
  · have hks : (k : Int) < n := by omega
    (try refine wk ?_); (repeat (intro b; (try refine wk ?_)))
    have e : 0 + (k : Int).toNat * 1 = k := by simp
    refine J.op rfl ?_; refine J.isStore ?_; refine J.store1 0 rfl rfl rfl rfl rfl ?_ ?_ rfl (H' := [[(b, .cells (lecells v n (k + 1)) 5 (0, 0))]]) ?_ ?_
    · rw [e, lecells_len]; simpa [Nat.blt_eq] using hkn
    · simp [noFz]
    · rw [e, ← lecells_set]; rfl
    (try refine wk ?_); (repeat (intro b; (try refine wk ?_)))
    refine J.pick [0, 5, 10, 11] rfl ?_
    exact J.round (k + 1) hkn (by omega) (fun _ _ h => h) rfl
  · (try refine wk ?_); (repeat (intro b; (try refine wk ?_)))
    have hkn : k = n := by omega
    subst hkn
    refine J.done_ret (res1 rfl rfl) ?_
    exact ⟨b, rfl, rfl⟩

/-- The bytes of a number, the lowest first. -/
def le (v : Int) (n : Nat) : ByteArray := ⟨((List.range n).map fun (i : Nat) => UInt8.ofNat (v.fdiv (2 ^ min (8 * (i : Int)).toNat IntKind.u64.bits) % 256).toNat).toArray⟩
theorem le_size (v : Int) (n : Nat) : (le v n).size = n := by simp [le, ByteArray.size]
theorem u8_byte (q : Int) : ((UInt8.ofNat (q % 256).toNat).toNat : Int) = IntKind.u8.wrap q := by
  have h0 : 0 ≤ q % 256 := Int.emod_nonneg _ (by omega)
  have h1 : q % 256 < 256 := Int.emod_lt_of_pos _ (by omega)
  have h2 : IntKind.u8.wrap q = q % 256 := by simp [IntKind.wrap, IntKind.bits, IntKind.signed]
  rw [h2, UInt8.toNat_ofNat']
  omega
theorem le_bv (v : Int) (n : Nat) : bv (le v n) = lecells v n n := by
  unfold bv le lecells
  simp only [List.map_map]
  apply List.map_congr_left
  intro i hi
  have : i < n := List.mem_range.1 hi
  simp only [this, if_true, lecell, Function.comp]
  exact congrArg (Value.int IntKind.u8) (u8_byte _)

theorem BinPut (v n : Int) (hv : 0 ≤ v ∧ v ≤ 9223372036854775807) (hn : 0 ≤ n ∧ n ≤ 7) : Sp Tryz.prog 132 #[i64 v, i64 n] [] (Is (.string (le v n.toNat))) := by
  refine Sp.intro Tryz.func132 rfl rfl rfl fun w K => ?_
  have h1 : IntKind.u64.wrap v = v := by
    simp only [IntKind.wrap, IntKind.bits, IntKind.signed]
    have : v % 18446744073709551616 = v := Int.emod_eq_of_lt hv.1 (by omega)
    simp [this]
  have h2 : max 0 (min n 7) = n := by omega
  (try refine wk ?_); (repeat (intro b; (try refine wk ?_)))
  rw [h1, h2]
  refine J.op rfl ?_; refine J.isCallF ?_; refine J.call (H1 := []) (Order v n hn.1 hn.2) rfl rfl rfl rfl ?_
  rintro _ _ ⟨b, rfl, rfl⟩; refine J.put rfl ?_; refine J.nm ?_
  refine J.op rfl ?_; refine J.isConv ?_; refine J.give (Gives.bytesStr (s := le v n.toNat) 0 rfl rfl rfl (le_size _ _) ?_) rfl rfl ?_
  · rw [List.drop_zero, le_bv]; exact List.take_of_length_le (by rw [lecells_len]; exact Nat.le_refl _)
  (try refine wk ?_); (repeat (intro b; (try refine wk ?_)))
  refine J.clear ?_; refine J.done_ret (res1 rfl rfl) ?_; refine ⟨?_, rfl⟩
  rfl
end Go.Proofs.YF
namespace Go.Proofs.YF
open Go YE
attribute [local irreducible] CW LW OW XW AW PW HW RW AK HK AP HP DX CI LI OI BW RE MW J Gives
set_option maxHeartbeats 1000000
set_option maxRecDepth 20000

def cbit (v : Int) : Int := IntKind.u32.wrap (BitVec.ofInt IntKind.u32.bits (v.fdiv (2 ^ min (1 : Int).toNat IntKind.u32.bits)) ^^^ BitVec.ofInt IntKind.u32.bits (IntKind.u32.wrap (3988292384 * IntKind.u32.wrap (BitVec.ofInt IntKind.u32.bits v &&& BitVec.ofInt IntKind.u32.bits 1).toNat))).toNat
def citer : Nat → Int → Int
  | 0, v => v
  | j + 1, v => cbit (citer j v)
def cin (v : Int) (b : UInt8) : Int := IntKind.u32.wrap (BitVec.ofInt IntKind.u32.bits v ^^^ BitVec.ofInt IntKind.u32.bits (IntKind.u32.wrap (b.toNat : Int))).toNat
def cfold (v : Int) (l : List UInt8) : Int := l.foldl (fun v b => citer 8 (cin v b)) v
def cnot (v : Int) : Int := IntKind.u32.wrap (BitVec.ofInt IntKind.u32.bits (if IntKind.u32.signed then -1 else IntKind.u32.max) ^^^ BitVec.ofInt IntKind.u32.bits v).toNat
/-- The sum of a text and another one. -/
def crc (v : Int) (s : ByteArray) : Int := cnot (cfold (cnot v) s.data.toList)

theorem CrcMore (v : Int) (s : ByteArray) (hs : s.size ≤ 1000000000) : Sp Tryz.prog 210 #[.int .u32 v, .string s] [] (Is (.int .u32 (crc v s))) := by
  refine Sp.intro Tryz.func210 rfl rfl rfl fun w K => ?_
  (try refine wk ?_); (repeat (intro b; (try refine wk ?_)))
  refine J.op rfl ?_; refine J.isConv ?_; refine J.strBytes rfl rfl rfl rfl ?_
  intro b cap rest
  (try refine wk ?_); (repeat (intro b; (try refine wk ?_)))
  refine J.pick [5, 11, 12, 13] rfl ?_
  refine J.loop (α := Nat) (fun k => [(5, .int .u32 (cfold (cnot v) (s.data.toList.take k))), (11, slc b 0 s.size cap), (12, i64 s.size), (13, i64 k)]) (fun _ => [[(b, .cells (bv s ++ rest) 5 ((bv s ++ rest).length, (bv s ++ rest).length + 1))]]) (fun k => k ≤ s.size) (fun k => s.size - k) 0 (Nat.zero_le _) (fun _ _ h => h) rfl (fun k hk => ?_)
  by_cases hkn : k < s.size
  · have hks : (k : Int) < s.size := by omega
    have hkd : k < s.data.toList.length := hkn
    (try refine wk ?_); (repeat (intro b; (try refine wk ?_)))
    have hc : (bv s ++ rest)[0 + (k : Int).toNat * 1]? = some (.int .u8 (s.data.toList[k].toNat : Int)) := by
      have e : 0 + (k : Int).toNat * 1 = k := by simp
      rw [e, List.getElem?_append_left (by rw [bv_len]; exact hkn)]
      unfold bv
      rw [List.getElem?_map, List.getElem?_eq_getElem hkd]; rfl
    refine J.op rfl ?_; refine J.isLoad ?_; refine J.give (Gives.load1 0 rfl rfl rfl hc) rfl rfl ?_
    (try refine wk ?_); (repeat (intro b; (try refine wk ?_)))
    refine J.pick [5, 11, 12, 13, 21] rfl ?_
    refine J.loop (α := Nat) (fun j => [(5, .int .u32 (citer j (cin (cfold (cnot v) (s.data.toList.take k)) s.data.toList[k]))), (11, slc b 0 s.size cap), (12, i64 s.size), (13, i64 k), (21, i64 j)]) (fun _ => [[(b, .cells (bv s ++ rest) 5 ((bv s ++ rest).length, (bv s ++ rest).length + 1))]]) (fun j => j ≤ 8) (fun j => 8 - j) 0 (Nat.zero_le _) (fun _ _ h => h) rfl (fun j hj => ?_)
    by_cases hj8 : j < 8
    · have hjs : (j : Int) < 8 := by omega
      (try refine wk ?_); (repeat (intro b; (try refine wk ?_)))
      refine J.pick [5, 11, 12, 13, 21] rfl ?_
      exact J.round (j + 1) hj8 (by omega) (fun _ _ h => h) rfl
    · (try refine wk ?_); (repeat (intro b; (try refine wk ?_)))
      have hj8 : j = 8 := by omega
      subst hj8
      refine J.pick [5, 11, 12, 13] rfl ?_
      have e : cfold (cnot v) (s.data.toList.take (k + 1)) = citer 8 (cin (cfold (cnot v) (s.data.toList.take k)) s.data.toList[k]) := by
        rw [List.take_add_one, List.getElem?_eq_getElem hkd, cfold, List.foldl_append]; rfl
      refine J.round (k + 1) hkn (by omega) ?_ rfl
      rw [e]
      exact fun _ _ h => h
  · (try refine wk ?_); (repeat (intro b; (try refine wk ?_)))
    have hkn : k = s.size := by omega
    subst hkn
    refine J.clear ?_; refine J.done_ret (res1 rfl rfl) ?_; refine ⟨?_, rfl⟩
    have e : s.data.toList.take s.size = s.data.toList := List.take_length
    rw [e]; rfl
theorem CrcOf (s : ByteArray) (hs : s.size ≤ 1000000000) : Sp Tryz.prog 163 #[.string s] [] (Is (.int .u32 (crc 0 s))) := by
  refine Sp.intro Tryz.func163 rfl rfl rfl fun w K => ?_
  (try refine wk ?_); (repeat (intro b; (try refine wk ?_)))
  (refine J.op rfl ?_; refine J.isCallF ?_; refine J.call (CrcMore 0 s hs) rfl rfl rfl rfl ?_; rintro _ _ ⟨rfl, rfl⟩; refine J.pn ?_)
  (try refine wk ?_); (repeat (intro b; (try refine wk ?_)))
  refine J.clear ?_; refine J.done_ret (res1 rfl rfl) ?_; refine ⟨?_, rfl⟩
  rfl
theorem SlotIn (v a b : Int) : Sp Tryz.prog 228 #[i64 v, i64 a, i64 b] [] (Is (.bool (decide (a ≤ v) && decide (v ≤ b)))) := by
  refine Sp.intro Tryz.func228 rfl rfl rfl fun w K => ?_
  by_cases h1 : a ≤ v
  · by_cases h2 : v ≤ b
    · (try refine wk ?_); (repeat (intro b; (try refine wk ?_)))
      refine J.clear ?_; refine J.done_ret (res1 rfl rfl) ?_; refine ⟨?_, rfl⟩
      simp [h1, h2]
    · (try refine wk ?_); (repeat (intro b; (try refine wk ?_)))
      refine J.clear ?_; refine J.done_ret (res1 rfl rfl) ?_; refine ⟨?_, rfl⟩
      simp [h1, h2]
  · (try refine wk ?_); (repeat (intro b; (try refine wk ?_)))
    refine J.clear ?_; refine J.done_ret (res1 rfl rfl) ?_; refine ⟨?_, rfl⟩
    simp [h1]
theorem HeadIn (v a b : Int) : Sp Tryz.prog 222 #[i64 v, i64 a, i64 b] [] (Is (.bool (decide (a ≤ v) && decide (v ≤ b)))) := by
  refine Sp.intro Tryz.func222 rfl rfl rfl fun w K => ?_
  by_cases h1 : a ≤ v
  · by_cases h2 : v ≤ b
    · (try refine wk ?_); (repeat (intro b; (try refine wk ?_)))
      refine J.clear ?_; refine J.done_ret (res1 rfl rfl) ?_; refine ⟨?_, rfl⟩
      simp [h1, h2]
    · (try refine wk ?_); (repeat (intro b; (try refine wk ?_)))
      refine J.clear ?_; refine J.done_ret (res1 rfl rfl) ?_; refine ⟨?_, rfl⟩
      simp [h1, h2]
  · (try refine wk ?_); (repeat (intro b; (try refine wk ?_)))
    refine J.clear ?_; refine J.done_ret (res1 rfl rfl) ?_; refine ⟨?_, rfl⟩
    simp [h1]
theorem GeomOf (n : Int) (h : 0 ≤ n ∧ n ≤ 1000) : Sp Tryz.prog 39 #[i64 n] [] (Is (gv n)) := by
  refine Sp.intro Tryz.func39 rfl rfl rfl fun w K => ?_
  (try refine wk ?_); (repeat (intro b; (try refine wk ?_)))
  refine J.op rfl ?_; refine J.isBuild ?_; refine J.give (Gives.build (vs := [(0, i64 (48 + 32 * n)), (1, i64 32)]) (cells := #[i64 (48 + 32 * n), i64 32]) rfl rfl rfl) rfl rfl ?_
  (try refine wk ?_); (repeat (intro b; (try refine wk ?_)))
  exact J.done_first 0 (v := gv n) (resA 0 rfl rfl rfl rfl rfl) rfl ⟨rfl, rfl⟩
theorem Copies (house : Int) (h1 : 1 ≤ house) (h2 : house ≤ 16) : Sp Tryz.prog 126 #[i64 house] [] (Is (.agg #[i64 (16 + 2 * (house - 1)), i64 (16 + 2 * (house - 1) + 1)])) := by
  refine Sp.intro Tryz.func126 rfl rfl rfl fun w K => ?_
  (try refine wk ?_); (repeat (intro b; (try refine wk ?_)))
  (refine J.op rfl ?_; refine J.isCallF ?_; refine J.call (SlotAt house 0 h1 h2 (by omega) (by omega)) rfl rfl rfl rfl ?_; rintro _ _ ⟨rfl, rfl⟩; refine J.pn ?_)
  (try refine wk ?_); (repeat (intro b; (try refine wk ?_)))
  (refine J.op rfl ?_; refine J.isCallF ?_; refine J.call (SlotAt house 1 h1 h2 (by omega) (by omega)) rfl rfl rfl rfl ?_; rintro _ _ ⟨rfl, rfl⟩; refine J.pn ?_)
  refine J.op rfl ?_; refine J.isBuild ?_; refine J.give (Gives.build (vs := [(0, i64 (16 + 2 * (house - 1) + 0)), (1, i64 (16 + 2 * (house - 1) + 1))]) (cells := #[i64 (16 + 2 * (house - 1) + 0), i64 (16 + 2 * (house - 1) + 1)]) rfl rfl rfl) rfl rfl ?_
  (try refine wk ?_); (repeat (intro b; (try refine wk ?_)))
  refine J.done_first 0 (v := .agg #[i64 (16 + 2 * (house - 1) + 0), i64 (16 + 2 * (house - 1) + 1)]) (resA 0 rfl rfl rfl rfl rfl) rfl ⟨?_, rfl⟩
  rw [Int.add_zero]
end Go.Proofs.YF
namespace Go.Proofs.YF
open Go YE
attribute [local irreducible] CW LW OW XW AW PW HW RW AK HK AP HP DX CI LI OI BW RE MW J Gives
set_option maxHeartbeats 1000000
set_option maxRecDepth 20000

theorem SlotInT (v a b : Int) (h1 : a ≤ v) (h2 : v ≤ b) : Sp Tryz.prog 228 #[i64 v, i64 a, i64 b] [] (Is (.bool true)) := by
  have := SlotIn v a b
  rw [decide_eq_true h1, decide_eq_true h2] at this; exact this
theorem HeadInT (v a b : Int) (h1 : a ≤ v) (h2 : v ≤ b) : Sp Tryz.prog 222 #[i64 v, i64 a, i64 b] [] (Is (.bool true)) := by
  have := HeadIn v a b
  rw [decide_eq_true h1, decide_eq_true h2] at this; exact this

/-- A slot's numbers. -/
structure Slv where (num life clock seg pos next seq m0 m1 m2 m3 sb sn : Int)
abbrev Slv.cells (x : Slv) : List Value := [i64 x.num, i64 x.life, i64 x.clock, i64 x.seg, i64 x.pos, i64 x.next, i64 x.seq, i64 x.m0, i64 x.m1, i64 x.m2, i64 x.m3, i64 x.sb, i64 x.sn]
abbrev Slv.v (x : Slv) : Value := .agg #[i64 x.num, i64 x.life, i64 x.clock, i64 x.seg, i64 x.pos, i64 x.next, i64 x.seq, i64 x.m0, i64 x.m1, i64 x.m2, i64 x.m3, i64 x.sb, i64 x.sn]
structure Slv.Ok (x : Slv) : Prop where
  num : 1 ≤ x.num ∧ x.num ≤ 1000000000
  life : 1 ≤ x.life ∧ x.life ≤ 1000000
  clock : 0 ≤ x.clock ∧ x.clock ≤ 1099511627776
  sb : 0 ≤ x.sb ∧ x.sb ≤ 1099511627777
  sn : 0 ≤ x.sn ∧ x.sn ≤ 1099511627777
  seg : 0 ≤ x.seg ∧ x.seg ≤ 1000
  next : 0 ≤ x.next ∧ x.next ≤ 1000
  pos : 0 ≤ x.pos ∧ x.pos ≤ 32
  seq : 1 ≤ x.seq ∧ x.seq ≤ 1000000000
  m0 : 0 ≤ x.m0 ∧ x.m0 ≤ 16383
  m1 : 0 ≤ x.m1 ∧ x.m1 ≤ 16383
  m2 : 0 ≤ x.m2 ∧ x.m2 ≤ 16383
  m3 : 0 ≤ x.m3 ∧ x.m3 ≤ 16383
theorem SlotCheck (x : Slv) (h : x.Ok) : Sp Tryz.prog 229 #[x.v] [] (Is (.bool true)) := by
  refine Sp.intro Tryz.func229 rfl rfl rfl fun w K => ?_
  obtain ⟨h1, h2, h3, h4, h5, h6, h7, h8, h9, g0, g1, g2, g3⟩ := h
  repeat' (first | refine wk ?_ | intro b | (refine J.op rfl ?_; refine J.isCallF ?_; refine J.call (H1 := []) (SlotInT _ _ _ ?_ ?_) rfl rfl rfl rfl ?_; (focus (first | omega | assumption)); (focus (first | omega | assumption)); rintro _ _ ⟨rfl, rfl⟩; refine J.pn ?_) | (refine J.want rfl rfl rfl ?_; refine J.isCallF ?_; refine J.call (H1 := []) (SlotInT _ _ _ ?_ ?_) rfl rfl rfl rfl ?_; (focus (first | omega | assumption)); (focus (first | omega | assumption)); rintro _ _ ⟨rfl, rfl⟩; refine J.pn ?_))
  refine J.pick [1, 3, 50, 51] rfl ?_
  refine J.loop (α := Nat) (fun k => [(1, ptr b 0), (3, .bool true), (50, .agg #[i64 x.m0, i64 x.m1, i64 x.m2, i64 x.m3]), (51, i64 k)]) (fun _ => [[(b, .cells x.cells 57 (0, 0))]]) (fun k => k ≤ 4) (fun k => 4 - k) 0 (Nat.zero_le _) (fun _ _ h => h) rfl (fun k hk => ?_)
  by_cases hk4 : k < 4
  · have hks : (k : Int) < 4 := by omega
    rcases (show k = 0 ∨ k = 1 ∨ k = 2 ∨ k = 3 by omega) with rfl | rfl | rfl | rfl
    · repeat' (first | refine wk ?_ | intro b | (refine J.op rfl ?_; refine J.isCallF ?_; refine J.call (H1 := []) (SlotInT _ _ _ ?_ ?_) rfl rfl rfl rfl ?_; (focus (first | omega | assumption)); (focus (first | omega | assumption)); rintro _ _ ⟨rfl, rfl⟩; refine J.pn ?_) | (refine J.want rfl rfl rfl ?_; refine J.isCallF ?_; refine J.call (H1 := []) (SlotInT _ _ _ ?_ ?_) rfl rfl rfl rfl ?_; (focus (first | omega | assumption)); (focus (first | omega | assumption)); rintro _ _ ⟨rfl, rfl⟩; refine J.pn ?_))
      refine J.pick [1, 3, 50, 51] rfl ?_
      exact J.round 1 (by decide) (by decide) (fun _ _ h => h) rfl
    · repeat' (first | refine wk ?_ | intro b | (refine J.op rfl ?_; refine J.isCallF ?_; refine J.call (H1 := []) (SlotInT _ _ _ ?_ ?_) rfl rfl rfl rfl ?_; (focus (first | omega | assumption)); (focus (first | omega | assumption)); rintro _ _ ⟨rfl, rfl⟩; refine J.pn ?_) | (refine J.want rfl rfl rfl ?_; refine J.isCallF ?_; refine J.call (H1 := []) (SlotInT _ _ _ ?_ ?_) rfl rfl rfl rfl ?_; (focus (first | omega | assumption)); (focus (first | omega | assumption)); rintro _ _ ⟨rfl, rfl⟩; refine J.pn ?_))
      refine J.pick [1, 3, 50, 51] rfl ?_
      exact J.round 2 (by decide) (by decide) (fun _ _ h => h) rfl
    · repeat' (first | refine wk ?_ | intro b | (refine J.op rfl ?_; refine J.isCallF ?_; refine J.call (H1 := []) (SlotInT _ _ _ ?_ ?_) rfl rfl rfl rfl ?_; (focus (first | omega | assumption)); (focus (first | omega | assumption)); rintro _ _ ⟨rfl, rfl⟩; refine J.pn ?_) | (refine J.want rfl rfl rfl ?_; refine J.isCallF ?_; refine J.call (H1 := []) (SlotInT _ _ _ ?_ ?_) rfl rfl rfl rfl ?_; (focus (first | omega | assumption)); (focus (first | omega | assumption)); rintro _ _ ⟨rfl, rfl⟩; refine J.pn ?_))
      refine J.pick [1, 3, 50, 51] rfl ?_
      exact J.round 3 (by decide) (by decide) (fun _ _ h => h) rfl
    · repeat' (first | refine wk ?_ | intro b | (refine J.op rfl ?_; refine J.isCallF ?_; refine J.call (H1 := []) (SlotInT _ _ _ ?_ ?_) rfl rfl rfl rfl ?_; (focus (first | omega | assumption)); (focus (first | omega | assumption)); rintro _ _ ⟨rfl, rfl⟩; refine J.pn ?_) | (refine J.want rfl rfl rfl ?_; refine J.isCallF ?_; refine J.call (H1 := []) (SlotInT _ _ _ ?_ ?_) rfl rfl rfl rfl ?_; (focus (first | omega | assumption)); (focus (first | omega | assumption)); rintro _ _ ⟨rfl, rfl⟩; refine J.pn ?_))
      refine J.pick [1, 3, 50, 51] rfl ?_
      exact J.round 4 (by decide) (by decide) (fun _ _ h => h) rfl
  · (try refine wk ?_); (repeat (intro b; (try refine wk ?_)))
    refine J.clear ?_; refine J.done_ret (res1 rfl rfl) ?_; refine ⟨?_, rfl⟩
    rfl
end Go.Proofs.YF
namespace Go.Proofs.YF
open Go YE
attribute [local irreducible] CW LW OW XW AW PW HW RW AK HK AP HP DX CI LI OI BW RE MW J Gives
set_option maxHeartbeats 1000000
set_option maxRecDepth 20000

theorem wrap_u32 (z : Int) : 0 ≤ IntKind.u32.wrap z ∧ IntKind.u32.wrap z < 4294967296 := by
  simp only [IntKind.wrap, IntKind.bits, IntKind.signed]
  have h0 := Int.emod_nonneg z (show (2 : Int) ^ 32 ≠ 0 by decide)
  have h1 := Int.emod_lt_of_pos z (show (0 : Int) < 2 ^ 32 by decide)
  simp
  omega
theorem crc_range (v : Int) (s : ByteArray) : 0 ≤ crc v s ∧ crc v s < 4294967296 := wrap_u32 _
theorem crc_i64 (v : Int) (s : ByteArray) : IntKind.i64.wrap (crc v s) = crc v s := wrap64_in (by have := crc_range v s; omega)

theorem SlotPut1 (s : ByteArray) (b : Nat) (v n : Int) (hv : 0 ≤ v ∧ v ≤ 9223372036854775807) (hn : 0 ≤ n ∧ n ≤ 7) (hs : s.size ≤ 1000000) :
    Sp Tryz.prog 230 #[i64 v, i64 n, ptr b 0] [[(b, .cells [.string s] 9 (0, 0))]] (fun _ H => H = [[(b, .cells [.string (s ++ le v n.toNat)] 9 (0, 0))]]) := by
  refine Sp.intro Tryz.func230 rfl rfl rfl fun w K => ?_
  refine J.anyK Tryz.mixed [[(b, .cells [.string s] 9 (0, 0))]] 5 ?_
  refine J.tkK 0 [0, 4, 5] ?_
  refine J.tkF 1 ?_
  refine J.tkF 2 ?_
  refine J.onK 3 ?_ -- call
  (refine J.isCallF ?_; refine J.call (H1 := []) (BinPut v n hv hn) rfl rfl rfl rfl ?_; rintro _ _ ⟨rfl, rfl⟩; refine J.put rfl ?_; refine J.heldK (Sub.cons 0 rfl Sub.nil) ?_; refine J.nm ?_)
  have hl : s.size + (le v n.toNat).size ≤ 9223372036854775807 := by rw [le_size]; omega
  (first | refine J.tkF 4 ?_ | (refine J.tkFO 4 ?_; first | refine J.giveT (Gives.strAdd rfl rfl rfl hl) rfl rfl ?_))
  refine J.onK 5 ?_ -- store
  (refine wo ?_; (try intro b))
  refine J.pastK (by kernel_rfl) ?_
  refine J.allK (by kernel_rfl) ?_
  refine J.done (fun a w _ _ => res0 rfl a.tmps w) ?_
  rfl

def slotMark : ByteArray := ⟨#[66, 71, 83, 76]⟩
theorem slotMark_size : slotMark.size = 4 := rfl
/-- A slot's numbers as bytes. -/
def slotBody (house gen : Int) (x : Slv) : ByteArray :=
  slotMark ++ le house 1 ++ le gen 2 ++ le x.num 6 ++ le x.life 3 ++ le x.clock 6 ++ le x.seg 2 ++ le x.pos 2 ++ le x.next 2 ++ le x.seq 6 ++ le x.m0 4 ++ le x.m1 4 ++ le x.m2 4 ++ le x.m3 4 ++ le x.sb 6 ++ le x.sn 6
def mtext0 (house gen : Int) (x : Slv) : ByteArray := slotMark ++ le house 1 ++ le gen 2 ++ le x.num 6 ++ le x.life 3 ++ le x.clock 6 ++ le x.seg 2 ++ le x.pos 2 ++ le x.next 2 ++ le x.seq 6
def mtext (house gen : Int) (x : Slv) : Nat → ByteArray
  | 0 => mtext0 house gen x
  | 1 => mtext0 house gen x ++ le x.m0 4
  | 2 => mtext0 house gen x ++ le x.m0 4 ++ le x.m1 4
  | 3 => mtext0 house gen x ++ le x.m0 4 ++ le x.m1 4 ++ le x.m2 4
  | _ => mtext0 house gen x ++ le x.m0 4 ++ le x.m1 4 ++ le x.m2 4 ++ le x.m3 4
theorem slotBody_size (house gen : Int) (x : Slv) : (slotBody house gen x).size = 62 := by simp [slotBody, ByteArray.size_append, le_size, slotMark_size]
/-- k bytes 0 behind a text. -/
def padn (s : ByteArray) : Nat → ByteArray
  | 0 => s
  | k + 1 => padn s k ++ le 0 1
theorem padn_size (s : ByteArray) (k : Nat) : (padn s k).size = s.size + k := by
  induction k with
  | zero => rfl
  | succ k ih => rw [padn, ByteArray.size_append, le_size, ih]; omega
def slotText (house gen : Int) (x : Slv) : ByteArray := padn (slotBody house gen x) 190
def slotBlock (house gen : Int) (x : Slv) : ByteArray := slotText house gen x ++ le (crc 0 (slotText house gen x)) 4
theorem slotBlock_size (house gen : Int) (x : Slv) : (slotBlock house gen x).size = 256 := by
  rw [slotBlock, ByteArray.size_append, le_size, slotText, padn_size, slotBody_size]

/-- The next number. -/
theorem SlotPutN (s : ByteArray) (b : Nat) (v : Int) (n : Nat) (hv : 0 ≤ v ∧ v ≤ 9223372036854775807) (hn : n ≤ 7) (hs : s.size ≤ 1000000) :
    Sp Tryz.prog 230 #[i64 v, i64 n, ptr b 0] [[(b, .cells [.string s] 9 (0, 0))]] (fun _ H => H = [[(b, .cells [.string (s ++ le v n)] 9 (0, 0))]]) :=
  SlotPut1 s b v n hv (by omega) hs

theorem SlotPut (house gen : Int) (x : Slv) (h1 : 1 ≤ house ∧ house ≤ 16) (h2 : 1 ≤ gen ∧ gen ≤ 65535) (hx : x.Ok) :
    Sp Tryz.prog 191 #[i64 house, i64 gen, x.v] [] (Is (.tuple #[.string (slotBlock house gen x), .bool true])) := by
  refine Sp.intro Tryz.func191 rfl rfl rfl fun w K => ?_
  repeat' (first | refine wk ?_ | intro b | (refine J.op rfl ?_; refine J.isCallF ?_; refine J.call (H1 := []) (SlotInT _ _ _ ?_ ?_) rfl rfl rfl rfl ?_; (focus (first | omega | assumption)); (focus (first | omega | assumption)); rintro _ _ ⟨rfl, rfl⟩; refine J.pn ?_) | (refine J.want rfl rfl rfl ?_; refine J.isCallF ?_; refine J.call (H1 := []) (SlotInT _ _ _ ?_ ?_) rfl rfl rfl rfl ?_; (focus (first | omega | assumption)); (focus (first | omega | assumption)); rintro _ _ ⟨rfl, rfl⟩; refine J.pn ?_))
  obtain ⟨bx, rfl⟩ : ∃ q, q = b := ⟨b, rfl⟩
  refine J.want rfl rfl rfl ?_
  (refine J.isCallF ?_; refine J.call (SlotCheck x hx) rfl rfl rfl rfl ?_; rintro _ _ ⟨rfl, rfl⟩; refine J.pn ?_)
  obtain ⟨x1, x2, x3, x4, x5, x6, x7, x8, x9, g0, g1, g2, g3⟩ := hx
  (try refine wk ?_); (repeat (intro b; (try refine wk ?_)))
  refine J.norm (H' := [[(b, .cells [.string slotMark] 9 (0, 0))], _]) rfl ?_
  (try refine wk ?_); (repeat (intro b; (try refine wk ?_)))
  (refine J.op rfl ?_; refine J.isCallV ?_; refine J.callV (SlotPutN _ _ _ 1 ?_ ?_ ?_) rfl rfl rfl rfl rfl rfl ?_; (focus omega); (focus omega); (focus (simp only [ByteArray.size_append, le_size, slotMark_size]; decide)); rintro _ _ rfl; refine J.put rfl ?_; refine J.nm ?_)
  (try refine wk ?_); (repeat (intro b; (try refine wk ?_)))
  (refine J.op rfl ?_; refine J.isCallV ?_; refine J.callV (SlotPutN _ _ _ 2 ?_ ?_ ?_) rfl rfl rfl rfl rfl rfl ?_; (focus omega); (focus omega); (focus (simp only [ByteArray.size_append, le_size, slotMark_size]; decide)); rintro _ _ rfl; refine J.put rfl ?_; refine J.nm ?_)
  (try refine wk ?_); (repeat (intro b; (try refine wk ?_)))
  (refine J.op rfl ?_; refine J.isCallV ?_; refine J.callV (SlotPutN _ _ _ 6 ?_ ?_ ?_) rfl rfl rfl rfl rfl rfl ?_; (focus omega); (focus omega); (focus (simp only [ByteArray.size_append, le_size, slotMark_size]; decide)); rintro _ _ rfl; refine J.put rfl ?_; refine J.nm ?_)
  (try refine wk ?_); (repeat (intro b; (try refine wk ?_)))
  (refine J.op rfl ?_; refine J.isCallV ?_; refine J.callV (SlotPutN _ _ _ 3 ?_ ?_ ?_) rfl rfl rfl rfl rfl rfl ?_; (focus omega); (focus omega); (focus (simp only [ByteArray.size_append, le_size, slotMark_size]; decide)); rintro _ _ rfl; refine J.put rfl ?_; refine J.nm ?_)
  (try refine wk ?_); (repeat (intro b; (try refine wk ?_)))
  (refine J.op rfl ?_; refine J.isCallV ?_; refine J.callV (SlotPutN _ _ _ 6 ?_ ?_ ?_) rfl rfl rfl rfl rfl rfl ?_; (focus omega); (focus omega); (focus (simp only [ByteArray.size_append, le_size, slotMark_size]; decide)); rintro _ _ rfl; refine J.put rfl ?_; refine J.nm ?_)
  (try refine wk ?_); (repeat (intro b; (try refine wk ?_)))
  (refine J.op rfl ?_; refine J.isCallV ?_; refine J.callV (SlotPutN _ _ _ 2 ?_ ?_ ?_) rfl rfl rfl rfl rfl rfl ?_; (focus omega); (focus omega); (focus (simp only [ByteArray.size_append, le_size, slotMark_size]; decide)); rintro _ _ rfl; refine J.put rfl ?_; refine J.nm ?_)
  (try refine wk ?_); (repeat (intro b; (try refine wk ?_)))
  (refine J.op rfl ?_; refine J.isCallV ?_; refine J.callV (SlotPutN _ _ _ 2 ?_ ?_ ?_) rfl rfl rfl rfl rfl rfl ?_; (focus omega); (focus omega); (focus (simp only [ByteArray.size_append, le_size, slotMark_size]; decide)); rintro _ _ rfl; refine J.put rfl ?_; refine J.nm ?_)
  (try refine wk ?_); (repeat (intro b; (try refine wk ?_)))
  (refine J.op rfl ?_; refine J.isCallV ?_; refine J.callV (SlotPutN _ _ _ 2 ?_ ?_ ?_) rfl rfl rfl rfl rfl rfl ?_; (focus omega); (focus omega); (focus (simp only [ByteArray.size_append, le_size, slotMark_size]; decide)); rintro _ _ rfl; refine J.put rfl ?_; refine J.nm ?_)
  (try refine wk ?_); (repeat (intro b; (try refine wk ?_)))
  (refine J.op rfl ?_; refine J.isCallV ?_; refine J.callV (SlotPutN _ _ _ 6 ?_ ?_ ?_) rfl rfl rfl rfl rfl rfl ?_; (focus omega); (focus omega); (focus (simp only [ByteArray.size_append, le_size, slotMark_size]; decide)); rintro _ _ rfl; refine J.put rfl ?_; refine J.nm ?_)
  (try refine wk ?_); (repeat (intro b; (try refine wk ?_)))
  refine J.pick [5, 8, 9, 61, 62] rfl ?_
  refine J.loop (α := Nat) (fun k => [(5, ptr bx 0), (8, ptr b 0), (9, .func (.func 230) #[] #[ptr b 0]), (61, .agg #[i64 x.m0, i64 x.m1, i64 x.m2, i64 x.m3]), (62, i64 k)]) (fun k => [[(b, .cells [.string (mtext house gen x k)] 9 (0, 0))], [(bx, .cells x.cells 57 (0, 0))]]) (fun k => k ≤ 4) (fun k => 4 - k) 0 (Nat.zero_le _) (fun _ _ h => h) rfl (fun k hk => ?_)
  by_cases hk4 : k < 4
  · have hks : (k : Int) < 4 := by omega
    rcases (show k = 0 ∨ k = 1 ∨ k = 2 ∨ k = 3 by omega) with rfl | rfl | rfl | rfl
    · (try refine wk ?_); (repeat (intro b; (try refine wk ?_)))
      (refine J.op rfl ?_; refine J.isCallV ?_; refine J.callV (SlotPutN _ _ _ 4 ?_ ?_ ?_) rfl rfl rfl rfl rfl rfl ?_; (focus omega); (focus omega); (focus (simp only [padn_size, mtext, mtext0, ByteArray.size_append, le_size, slotMark_size]; decide)); rintro _ _ rfl; refine J.put rfl ?_; refine J.nm ?_)
      (try refine wk ?_); (repeat (intro b; (try refine wk ?_)))
      refine J.pick [5, 8, 9, 61, 62] rfl ?_
      exact J.round 1 (by decide) (by decide) (fun _ _ h => h) rfl
    · (try refine wk ?_); (repeat (intro b; (try refine wk ?_)))
      (refine J.op rfl ?_; refine J.isCallV ?_; refine J.callV (SlotPutN _ _ _ 4 ?_ ?_ ?_) rfl rfl rfl rfl rfl rfl ?_; (focus omega); (focus omega); (focus (simp only [padn_size, mtext, mtext0, ByteArray.size_append, le_size, slotMark_size]; decide)); rintro _ _ rfl; refine J.put rfl ?_; refine J.nm ?_)
      (try refine wk ?_); (repeat (intro b; (try refine wk ?_)))
      refine J.pick [5, 8, 9, 61, 62] rfl ?_
      exact J.round 2 (by decide) (by decide) (fun _ _ h => h) rfl
    · (try refine wk ?_); (repeat (intro b; (try refine wk ?_)))
      (refine J.op rfl ?_; refine J.isCallV ?_; refine J.callV (SlotPutN _ _ _ 4 ?_ ?_ ?_) rfl rfl rfl rfl rfl rfl ?_; (focus omega); (focus omega); (focus (simp only [padn_size, mtext, mtext0, ByteArray.size_append, le_size, slotMark_size]; decide)); rintro _ _ rfl; refine J.put rfl ?_; refine J.nm ?_)
      (try refine wk ?_); (repeat (intro b; (try refine wk ?_)))
      refine J.pick [5, 8, 9, 61, 62] rfl ?_
      exact J.round 3 (by decide) (by decide) (fun _ _ h => h) rfl
    · (try refine wk ?_); (repeat (intro b; (try refine wk ?_)))
      (refine J.op rfl ?_; refine J.isCallV ?_; refine J.callV (SlotPutN _ _ _ 4 ?_ ?_ ?_) rfl rfl rfl rfl rfl rfl ?_; (focus omega); (focus omega); (focus (simp only [padn_size, mtext, mtext0, ByteArray.size_append, le_size, slotMark_size]; decide)); rintro _ _ rfl; refine J.put rfl ?_; refine J.nm ?_)
      (try refine wk ?_); (repeat (intro b; (try refine wk ?_)))
      refine J.pick [5, 8, 9, 61, 62] rfl ?_
      exact J.round 4 (by decide) (by decide) (fun _ _ h => h) rfl
  · (try refine wk ?_); (repeat (intro b; (try refine wk ?_)))
    obtain rfl : k = 4 := by omega
    (refine J.op rfl ?_; refine J.isCallV ?_; refine J.callV (SlotPutN _ _ _ 6 ?_ ?_ ?_) rfl rfl rfl rfl rfl rfl ?_; (focus omega); (focus omega); (focus (simp only [padn_size, mtext, mtext0, ByteArray.size_append, le_size, slotMark_size]; decide)); rintro _ _ rfl; refine J.put rfl ?_; refine J.nm ?_)
    (try refine wk ?_); (repeat (intro b; (try refine wk ?_)))
    (refine J.op rfl ?_; refine J.isCallV ?_; refine J.callV (SlotPutN _ _ _ 6 ?_ ?_ ?_) rfl rfl rfl rfl rfl rfl ?_; (focus omega); (focus omega); (focus (simp only [padn_size, mtext, mtext0, ByteArray.size_append, le_size, slotMark_size]; decide)); rintro _ _ rfl; refine J.put rfl ?_; refine J.nm ?_)
    (try refine wk ?_); (repeat (intro b; (try refine wk ?_)))
    refine J.pick [8, 9] rfl ?_
    refine J.norm (H' := [[(b, .cells [.string (slotBody house gen x)] 9 (0, 0))], [(bx, .cells x.cells 57 (0, 0))]]) rfl ?_
    refine J.loop (α := Nat) (fun k => [(8, ptr b 0), (9, .func (.func 230) #[] #[ptr b 0])]) (fun k => [[(b, .cells [.string (padn (slotBody house gen x) k)] 9 (0, 0))], [(bx, .cells x.cells 57 (0, 0))]]) (fun k => k ≤ 190) (fun k => 190 - k) 0 (Nat.zero_le _) (fun _ _ h => h) rfl (fun k hk => ?_)
    have hsz : (padn (slotBody house gen x) k).size = 62 + k := by rw [padn_size, slotBody_size]
    by_cases hk4 : k < 190
    · have hks : ((padn (slotBody house gen x) k).size : Int) < 252 := by omega
      (try refine wk ?_); (repeat (intro b; (try refine wk ?_)))
      (refine J.op rfl ?_; refine J.isCallV ?_; refine J.callV (SlotPutN _ _ _ 1 ?_ ?_ ?_) rfl rfl rfl rfl rfl rfl ?_; (focus omega); (focus omega); (focus (simp only [padn_size, mtext, mtext0, ByteArray.size_append, le_size, slotMark_size]; rw [slotBody_size]; omega)); rintro _ _ rfl; refine J.put rfl ?_; refine J.nm ?_)
      refine J.nil ?_
      (try refine wk ?_); (repeat (intro b; (try refine wk ?_)))
      refine J.pick [8, 9] rfl ?_
      exact J.round (k + 1) hk4 (by omega) (fun _ _ h => h) rfl
    · have hks : ¬ ((padn (slotBody house gen x) k).size : Int) < 252 := by omega
      (try refine wk ?_); (repeat (intro b; (try refine wk ?_)))
      obtain rfl : k = 190 := by omega
      refine J.norm (H' := [[(b, .cells [.string (slotText house gen x)] 9 (0, 0))], [(bx, .cells x.cells 57 (0, 0))]]) rfl ?_
      have hsl : (slotText house gen x).size = 252 := by rw [slotText, padn_size, slotBody_size]
      have hcr := crc_range 0 (slotText house gen x)
      refine J.any Tryz.mixed [[(b, .cells [.string (slotText house gen x)] 9 (0, 0))]] ?_
      refine J.tk 0 ?_
      refine J.tk 1 ?_
      refine J.on 2 ?_ -- call
      (refine J.isCallF ?_; refine J.call (H1 := []) (CrcOf (slotText house gen x) (by omega)) rfl rfl rfl rfl ?_; rintro _ _ ⟨rfl, rfl⟩; refine J.put rfl ?_; refine J.held (Sub.cons 0 rfl Sub.nil) ?_; refine J.nm ?_)
      refine J.tk 3 ?_
      refine J.on 4 ?_ -- call
      refine J.slot 85 (i64 (crc 0 (slotText house gen x))) rfl (congrArg i64 (crc_i64 _ _)) ?_
      (refine J.isCallF ?_; refine J.call (H1 := []) (BinPut (crc 0 (slotText house gen x)) 4 (by omega) (by decide)) rfl rfl rfl rfl ?_; rintro _ _ ⟨rfl, rfl⟩; refine J.put rfl ?_; refine J.held (Sub.cons 0 rfl Sub.nil) ?_; refine J.nm ?_)
      have hl : (slotText house gen x).size + (le (crc 0 (slotText house gen x)) (4 : Int).toNat).size ≤ 9223372036854775807 := by rw [le_size, hsl]; decide
      (first | refine J.tk 5 ?_ | (refine J.tkO 5 ?_; first | refine J.giveT (Gives.strAdd rfl rfl rfl hl) rfl rfl ?_))
      refine J.tk 6 ?_
      refine J.tk 7 ?_
      refine J.al ?_
      (try refine wk ?_); (repeat (intro b; (try refine wk ?_)))
      refine J.clear ?_; refine J.done_ret (res2 rfl rfl rfl) ?_
      exact ⟨rfl, rfl⟩
end Go.Proofs.YF
namespace Go.Proofs.YF
open Go YE
attribute [local irreducible] CW LW OW XW AW PW HW RW AK HK AP HP DX CI LI OI BW RE MW J Gives
set_option maxHeartbeats 1000000
set_option maxRecDepth 20000

/-- Which of both copies: the number's lowest bit. -/
def par (n : Int) : Int := IntKind.i64.wrap (BitVec.ofInt IntKind.i64.bits n &&& BitVec.ofInt IntKind.i64.bits 1).toNat
theorem par_01 (n : Int) : par n = 0 ∨ par n = 1 := by
  have h : (BitVec.ofInt 64 n &&& BitVec.ofInt 64 1).toNat ≤ 1 := by
    rw [BitVec.toNat_and]
    exact Nat.and_le_right
  have e : par n = ((BitVec.ofInt 64 n &&& BitVec.ofInt 64 1).toNat : Int) := wrap64_in (by
    constructor
    · exact Int.le_trans (by decide) (Int.natCast_nonneg _)
    · exact Int.le_trans (Int.ofNat_le.2 h) (by decide))
  rw [e]
  omega

theorem Save (d : Nat) (t : Rest) (db S : Nat) (wv : Value) (wr : Int) (n : Nat) (D : List ByteArray) (ws : List (Int × Int × ByteArray)) (Hw : Heap) (hD : Secs S D) (hS : S ≤ 20000) (hS' : 48 ≤ S) (hwo : Wok S ws)
    (hw : Sl 139 258 wv n (wcells ws) Hw) (hn : n ≤ 1000000) (hwr : 0 ≤ wr ∧ wr ≤ 1000000000) (gen : Int) (h2 : 1 ≤ gen ∧ gen ≤ 65535) (x : Slv) (hx : x.Ok) :
    Sp Tryz.prog 136 #[ptr d 0, i64 2, i64 gen, x.v] [[(d, .cells (dcell t db S wv wr) 114 (0, 0))], [(db, .cells (dcells D) 137 (0, 0))], Hw]
      (fun v H => v = .bool true ∧ H = [[(d, .cells (dcell t db S nils (wr + 1)) 114 (0, 0))], [(db, .cells (dcells (flush (flush D ws) [(wr, 18 + par x.num, slotBlock 2 gen x)])) 137 (0, 0))]]) := by
  refine Sp.intro Tryz.func136 rfl rfl rfl fun w K => ?_
  (try refine wk ?_); (repeat (intro b; (try refine wk ?_)))
  (refine J.op rfl ?_; refine J.isCallF ?_; refine J.call (H1 := []) (SlotPut 2 gen x (by decide) h2 hx) rfl rfl rfl rfl ?_; rintro _ _ ⟨rfl, rfl⟩; refine J.put rfl ?_; refine J.nm ?_)
  (try refine wk ?_); (repeat (intro b; (try refine wk ?_)))
  refine J.any Tryz.mixed [[(b, .cells x.cells 57 (0, 0))]] ?_
  refine J.tk 0 ?_
  refine J.tk 1 ?_
  (first | refine J.tkW 2 ?_ | refine J.tkE 2 ?_ | refine J.tkN 2 ?_ | refine J.tkX 2 ?_ | refine J.tkU 2 ?_)
  (first | refine J.tkW 3 ?_ | refine J.tkE 3 ?_ | refine J.tkN 3 ?_ | refine J.tkX 3 ?_ | refine J.tkU 3 ?_)
  (first | refine J.onW 4 ?_ | refine J.onE 4 ?_) -- call
  refine J.front 3 rfl rfl ?_; refine J.front 3 rfl rfl ?_; refine J.front 3 rfl rfl ?_
  refine J.nm ?_
  (refine J.isCallF ?_; refine J.call (H1 := [_, _, _]) (Flush d t db S wv wr n D ws Hw hD hS hwo hw hn) rfl rfl rfl rfl ?_; rintro _ _ ⟨rfl, rfl⟩; refine J.put rfl ?_; refine J.held (Sub.cons 2 rfl Sub.nil) ?_; refine J.nm ?_)
  refine J.tk 5 ?_
  refine J.tk 6 ?_
  (first | refine J.tkW 7 ?_ | refine J.tkE 7 ?_ | refine J.tkN 7 ?_ | refine J.tkX 7 ?_ | refine J.tkU 7 ?_)
  (first | refine J.tkW 8 ?_ | refine J.tkE 8 ?_ | refine J.tkN 8 ?_ | refine J.tkX 8 ?_ | refine J.tkU 8 ?_)
  (first | refine J.tkW 9 ?_ | refine J.tkE 9 ?_ | refine J.tkN 9 ?_ | refine J.tkX 9 ?_ | refine J.tkU 9 ?_)
  (first | refine J.tkW 11 ?_ | refine J.tkE 11 ?_ | refine J.tkN 11 ?_ | refine J.tkX 11 ?_ | refine J.tkU 11 ?_)
  (first | refine J.tkW 12 ?_ | refine J.tkE 12 ?_ | refine J.tkN 12 ?_ | refine J.tkX 12 ?_ | refine J.tkU 12 ?_)
  (first | refine J.tkW 13 ?_ | refine J.tkE 13 ?_ | refine J.tkN 13 ?_ | refine J.tkX 13 ?_ | refine J.tkU 13 ?_)
  (first | refine J.tkW 15 ?_ | refine J.tkE 15 ?_ | refine J.tkN 15 ?_ | refine J.tkX 15 ?_ | refine J.tkU 15 ?_)
  (first | refine J.onW 10 ?_ | refine J.onE 10 ?_) -- call
  (refine J.isCallF ?_; refine J.call (H1 := []) (Copies 2 (by decide) (by decide)) rfl rfl rfl rfl ?_; rintro _ _ ⟨rfl, rfl⟩; refine J.put rfl ?_; refine J.held (Sub.cons 2 rfl Sub.nil) ?_; refine J.nm ?_)
  have hp := par_01 x.num
  have hp1 : 0 ≤ par x.num ∧ par x.num < (2 : Nat) := by omega
  have hp2 : ([i64 (16 + 2 * (2 - 1)), i64 (16 + 2 * (2 - 1) + 1)] : List Value)[(par x.num).toNat]? = some (i64 (18 + par x.num)) := by
    rcases hp with h | h <;> rw [h] <;> rfl
  (first | refine J.tkW 14 ?_ | (refine J.tkWO 14 ?_; first | refine J.giveT (Gives.indexA1 (v := i64 (18 + par x.num)) rfl rfl rfl hp1 hp2) rfl rfl ?_) | refine J.tkE 14 ?_ | (refine J.tkEO 14 ?_; first | refine J.giveT (Gives.indexA1 (v := i64 (18 + par x.num)) rfl rfl rfl hp1 hp2) rfl rfl ?_) | refine J.tkN 14 ?_ | refine J.tkX 14 ?_ | refine J.tkU 14 ?_)
  (first | refine J.onW 16 ?_ | refine J.onE 16 ?_) -- call
  refine J.flat (H' := [[(d, .cells (dcell t db S nils wr) 114 (0, 0))], [], [(db, .cells (dcells (flush D ws)) 137 (0, 0))], [(b, .cells x.cells 57 (0, 0))]]) rfl ?_
  (refine J.isCallF ?_; refine J.call (H1 := [_, []]) (Write d t db S nils wr (18 + par x.num) (slotBlock 2 gen x) 0 [] [] (by omega) (slotBlock_size 2 gen x) (Sl.nil 139 258) (by decide) hwr) rfl rfl rfl rfl ?_)
  rintro _ _ ⟨rfl, wv', Hw', hw', rfl⟩; refine J.put rfl ?_; refine J.held (Sub.cons 3 rfl Sub.nil) ?_; refine J.nm ?_
  refine J.tk 17 ?_
  refine J.tk 18 ?_
  (first | refine J.tkW 19 ?_ | refine J.tkE 19 ?_ | refine J.tkN 19 ?_ | refine J.tkX 19 ?_ | refine J.tkU 19 ?_)
  (first | refine J.tkW 20 ?_ | refine J.tkE 20 ?_ | refine J.tkN 20 ?_ | refine J.tkX 20 ?_ | refine J.tkU 20 ?_)
  (first | refine J.onW 21 ?_ | refine J.onE 21 ?_) -- call
  refine J.perm (H' := [[(d, .cells (dcell t db S wv' (wr + 1)) 114 (0, 0))], [(db, .cells (dcells (flush D ws)) 137 (0, 0))], Hw', [(b, .cells x.cells 57 (0, 0))]]) ((List.Perm.swap _ _ _).cons _) ?_
  (refine J.isCallF ?_; refine J.call (H1 := [_, _, _]) (Flush d t db S wv' (wr + 1) 1 (flush D ws) [(wr, 18 + par x.num, slotBlock 2 gen x)] Hw' (Secs.flush _ _ hD hwo) hS ?_ hw' (by decide)) rfl rfl rfl rfl ?_)
  · intro y hy
    obtain rfl := List.mem_singleton.1 hy
    exact ⟨by show 0 ≤ 18 + par x.num; omega, by show 18 + par x.num < S; omega, slotBlock_size 2 gen x⟩
  rintro _ _ ⟨rfl, rfl⟩; refine J.put rfl ?_; refine J.held (Sub.cons 2 rfl Sub.nil) ?_; refine J.nm ?_
  refine J.tk 22 ?_
  refine J.tk 23 ?_
  refine J.al ?_
  (try refine wk ?_); (repeat (intro b; (try refine wk ?_)))
  refine J.first 2 rfl ?_
  refine J.done_ret (res1 rfl rfl) ?_
  exact ⟨rfl, rfl⟩
end Go.Proofs.YF
namespace Go.Proofs.YE
open Go
theorem J.buildSl0 {P : Program} {Q : Exit → Act → World → Prop} {c : Cx} {S : Slots} {H : Hs} {K : Act → World → Prop} {o : Oper} {T e sz bytes d : Nat} [hT : SliceOf P T e sz bytes] (ho : o.op = .buildSlice T 0 #[]) (hd : o.dst = some d) (hn : Nat.blt d c.n = true)
    (h : ∀ b, J c K ((d, slc b 0 0 0) :: S) ([(b, .cells [] e (0, 0))] :: H)) : J c (OW P o K Q) S H :=
  J.new (f := fun b => slc b 0 0 0) (ho := .cells [] e (0, 0)) (fun a w hf _ => by
    unfold execOp; rw [ho]
    simp [Instr.buildSlice, und_run hT.und, size_run hT.size, Instr.fill, newRow, HO.obj', Array.range_zero']) hd hn h
end Go.Proofs.YE
namespace Go.Proofs.YF
open Go YE
attribute [local irreducible] CW LW OW XW AW PW HW RW AK HK AP HP DX CI LI OI BW RE MW J Gives
set_option maxHeartbeats 1000000
set_option maxRecDepth 20000

/-- A list of numbers that is read. -/
def Ints (v : Value) (xs : List Int) (Hx : Heap) : Prop :=
  (v = nils ∧ xs = [] ∧ Hx = []) ∨
  ∃ b k cap l e, v = slc b k xs.length cap ∧ Hx = [(b, .cells l e (0, 0))] ∧ (l.drop k).take xs.length = xs.map (fun x => i64 x) ∧ k + xs.length ≤ l.length ∧ xs.length ≤ cap

theorem Sl.ints {v : Value} {n : Nat} {xs : List Int} {Hx : Heap} (h : Sl 3 1 v n (xs.map fun x => i64 x) Hx) : Ints v xs Hx := by
  have hl := h.len
  simp only [List.length_map, Nat.mul_one] at hl
  rcases h with ⟨rfl, rfl, h3, rfl⟩ | ⟨b, cap, rest, rfl, rfl, h1, h2, h3, h4⟩
  · exact .inl ⟨rfl, by simpa using h3, rfl⟩
  · refine .inr ⟨b, 0, cap, _, _, by rw [hl], rfl, ?_, ?_, by omega⟩
    · rw [List.drop_zero]
      have : xs.length = (xs.map fun x => i64 x).length := by simp
      rw [this]; exact List.take_left
    · simp

theorem Clone (v : Value) (xs : List Int) (Hx : Heap) (hv : Ints v xs Hx) (hn : xs.length ≤ 100000) : Sp Tryz.prog 80 #[v] [Hx] (fun r H => ∃ n Hr, Sl 3 1 r n (xs.map fun x => i64 x) Hr ∧ H = [Hr, Hx]) := by
  refine Sp.intro Tryz.func80 rfl rfl rfl fun w K => ?_
  rcases hv with ⟨rfl, rfl, rfl⟩ | ⟨b, k, cap, l, e, rfl, rfl, h1, h2, h3⟩
  · (try refine wk ?_); (repeat (intro b; (try refine wk ?_)))
    refine J.flat (H' := [[], []]) rfl ?_
    refine J.done_ret (res1 rfl rfl) ?_
    exact ⟨0, [], Sl.nil 3 1, rfl⟩
  · (try refine wk ?_); (repeat (intro b; (try refine wk ?_)))
    refine J.op rfl ?_; refine J.isBuildSlice ?_; refine J.buildSl0 rfl rfl rfl ?_
    intro bn
    (try refine wk ?_); (repeat (intro b; (try refine wk ?_)))
    refine J.op rfl ?_; refine J.isBuiltin ?_
    refine J.append (sz := 1) (cs := []) (news := xs.map fun x => i64 x) 0 (.inr ⟨bn, 0, [], rfl, rfl, rfl, rfl, Nat.le_refl _, by decide⟩) rfl rfl rfl ?_ ?_ ?_ (by simp) (by simp) ?_ rfl ?_
    · simp
    · rw [Nat.mul_one]; exact h1
    · intro u hu
      obtain ⟨x, _, rfl⟩ := List.mem_map.1 hu
      rfl
    · constructor
      · omega
      · have : maxLen = 9223372036854775807 := rfl
        omega
    intro v' Hx' hs
    (try refine wk ?_); (repeat (intro b; (try refine wk ?_)))
    refine J.done_ret (res1 rfl rfl) ?_
    exact ⟨_, Hx', hs, rfl⟩

/-- A log's own cells. -/
abbrev lcell (d : Nat) (N : Int) (gen : Int) (x : Slv) (fv : Value) : List Value :=
  [ptr d 0, i64 (48 + 32 * N), i64 32, i64 2, i64 gen, i64 x.num, i64 x.life, i64 x.clock, i64 x.seg, i64 x.pos, i64 x.next, i64 x.seq, i64 x.m0, i64 x.m1, i64 x.m2, i64 x.m3, i64 x.sb, i64 x.sn, fv]

theorem PlaceOf (b d : Nat) (N gen : Int) (x : Slv) (fv : Value) : Sp Tryz.prog 73 #[ptr b 0] [[(b, .cells (lcell d N gen x fv) 190 (0, 0))]] (fun v H => v = x.v ∧ H = [[(b, .cells (lcell d N gen x fv) 190 (0, 0))]]) := by
  refine Sp.intro Tryz.func73 rfl rfl rfl fun w K => ?_
  (try refine wk ?_); (repeat (intro b; (try refine wk ?_)))
  refine J.front 1 rfl rfl ?_
  exact J.done_first 1 (v := x.v) (resA 1 rfl rfl rfl rfl rfl) rfl ⟨rfl, rfl⟩
theorem Free (b d : Nat) (N gen : Int) (x : Slv) (fv : Value) (xs : List Int) (Hf : Heap) (hf : Ints fv xs Hf) (hn : xs.length ≤ 100000) :
    Sp Tryz.prog 109 #[ptr b 0] [[(b, .cells (lcell d N gen x fv) 190 (0, 0))], Hf] (fun r H => ∃ n Hr, Sl 3 1 r n (xs.map fun x => i64 x) Hr ∧ H = [Hr, [(b, .cells (lcell d N gen x fv) 190 (0, 0))], Hf]) := by
  refine Sp.intro Tryz.func109 rfl rfl rfl fun w K => ?_
  (try refine wk ?_); (repeat (intro b; (try refine wk ?_)))
  refine J.front 1 rfl rfl ?_
  (refine J.op rfl ?_; refine J.isCallF ?_; refine J.call (H1 := [_]) (Clone fv xs Hf hf hn) rfl rfl rfl rfl ?_)
  rintro r _ ⟨n, Hr, hr, rfl⟩
  refine J.put rfl ?_
  (try refine wk ?_); (repeat (intro b; (try refine wk ?_)))
  refine J.perm (H' := [Hr, [(b, .cells (lcell d N gen x fv) 190 (0, 0))], Hf]) ((List.Perm.swap _ _ _).cons _) ?_
  refine J.done_ret (res1 rfl rfl) ?_
  exact ⟨n, Hr, hr, rfl⟩
theorem RoomOf (b d : Nat) (N gen : Int) (x : Slv) (fv : Value) (n : Int) (hx : 0 ≤ x.pos ∧ x.pos ≤ 32) (hn : 0 ≤ n ∧ n ≤ 1000) :
    Sp Tryz.prog 188 #[ptr b 0, i64 n] [[(b, .cells (lcell d N gen x fv) 190 (0, 0))]] (fun v H => v = .bool (decide (x.pos + n ≤ 32)) ∧ H = [[(b, .cells (lcell d N gen x fv) 190 (0, 0))]]) := by
  refine Sp.intro Tryz.func188 rfl rfl rfl fun w K => ?_
  (try refine wk ?_); (repeat (intro b; (try refine wk ?_)))
  refine J.any Tryz.mixed [[(b, .cells (lcell d N gen x fv) 190 (0, 0))]] ?_
  refine J.tk 0 ?_
  refine J.tk 1 ?_
  refine J.tk 2 ?_
  refine J.tk 3 ?_
  refine J.tk 4 ?_
  refine J.tk 5 ?_
  refine J.tk 6 ?_
  (first | refine J.tkW 7 ?_ | refine J.tkE 7 ?_ | refine J.tkN 7 ?_ | refine J.tkX 7 ?_ | refine J.tkU 7 ?_)
  (first | refine J.tkW 8 ?_ | refine J.tkE 8 ?_ | refine J.tkN 8 ?_ | refine J.tkX 8 ?_ | refine J.tkU 8 ?_)
  (first | refine J.tkW 9 ?_ | refine J.tkE 9 ?_ | refine J.tkN 9 ?_ | refine J.tkX 9 ?_ | refine J.tkU 9 ?_)
  (first | refine J.tkW 10 ?_ | refine J.tkE 10 ?_ | refine J.tkN 10 ?_ | refine J.tkX 10 ?_ | refine J.tkU 10 ?_)
  (first | refine J.tkW 11 ?_ | refine J.tkE 11 ?_ | refine J.tkN 11 ?_ | refine J.tkX 11 ?_ | refine J.tkU 11 ?_)
  (first | refine J.tkW 12 ?_ | refine J.tkE 12 ?_ | refine J.tkN 12 ?_ | refine J.tkX 12 ?_ | refine J.tkU 12 ?_)
  (first | refine J.tkW 13 ?_ | refine J.tkE 13 ?_ | refine J.tkN 13 ?_ | refine J.tkX 13 ?_ | refine J.tkU 13 ?_)
  (first | refine J.tkW 14 ?_ | refine J.tkE 14 ?_ | refine J.tkN 14 ?_ | refine J.tkX 14 ?_ | refine J.tkU 14 ?_)
  (first | refine J.tkW 15 ?_ | refine J.tkE 15 ?_ | refine J.tkN 15 ?_ | refine J.tkX 15 ?_ | refine J.tkU 15 ?_)
  (first | refine J.tkW 16 ?_ | refine J.tkE 16 ?_ | refine J.tkN 16 ?_ | refine J.tkX 16 ?_ | refine J.tkU 16 ?_)
  (first | refine J.tkW 17 ?_ | refine J.tkE 17 ?_ | refine J.tkN 17 ?_ | refine J.tkX 17 ?_ | refine J.tkU 17 ?_)
  (first | refine J.tkW 18 ?_ | refine J.tkE 18 ?_ | refine J.tkN 18 ?_ | refine J.tkX 18 ?_ | refine J.tkU 18 ?_)
  (first | refine J.tkW 19 ?_ | refine J.tkE 19 ?_ | refine J.tkN 19 ?_ | refine J.tkX 19 ?_ | refine J.tkU 19 ?_)
  (first | refine J.tkW 20 ?_ | refine J.tkE 20 ?_ | refine J.tkN 20 ?_ | refine J.tkX 20 ?_ | refine J.tkU 20 ?_)
  refine J.tk 21 ?_
  refine J.tk 22 ?_
  refine J.al ?_
  (try refine wk ?_); (repeat (intro b; (try refine wk ?_)))
  refine J.done_ret (res1 rfl rfl) ?_
  exact ⟨rfl, rfl⟩
end Go.Proofs.YF
namespace Go.Proofs.YF
open Go YE
attribute [local irreducible] CW LW OW XW AW PW HW RW AK HK AP HP DX CI LI OI BW RE MW J Gives
set_option maxHeartbeats 1000000
set_option maxRecDepth 20000

theorem cells_one {v : Value} (h : v.oneCell' = true) : v.cells = #[v] := by cases v <;> first | rfl | (simp [Value.oneCell'] at h)
theorem lbuilt (d : Nat) (N gen : Int) (x : Slv) (r : Value) (h : r.oneCell' = true) :
    Tryz.prog.built 190 [(0, .agg #[ptr d 0, i64 (48 + 32 * N), i64 32]), (1, i64 2), (2, i64 gen), (3, x.v), (4, r)] = some (lcell d N gen x r).toArray := by
  cases r <;> first | (exfalso; simp [Value.oneCell'] at h; done) | kernel_rfl
theorem LogNew (d : Nat) (N gen : Int) (x : Slv) (fv : Value) (xs : List Int) (Hf : Heap) (hf : Ints fv xs Hf) (hn : xs.length ≤ 100000) :
    Sp Tryz.prog 78 #[ptr d 0, gv N, i64 2, i64 gen, x.v, fv] [Hf] (fun r H => ∃ b n fv' Hr, r = ptr b 0 ∧ Sl 3 1 fv' n (xs.map fun x => i64 x) Hr ∧ H = [[(b, .cells (lcell d N gen x fv') 190 (0, 0))], Hr, Hf]) := by
  refine Sp.intro Tryz.func78 rfl rfl rfl fun w K => ?_
  (try refine wk ?_); (repeat (intro b; (try refine wk ?_)))
  obtain ⟨bx, rfl⟩ : ∃ q, q = b := ⟨b, rfl⟩
  refine J.any Tryz.mixed [[(bx, .cells x.cells 57 (0, 0))], [(b, .cells [i64 (48 + 32 * N), i64 32] 61 (0, 0))]] ?_
  refine J.tk 0 ?_
  (first | refine J.tk 1 ?_ | (refine J.tkO 1 ?_; first | refine J.giveT (Gives.build (vs := [(0, ptr d 0), (1, gv N)]) (cells := #[ptr d 0, i64 (48 + 32 * N), i64 32]) rfl rfl rfl) rfl rfl ?_))
  (first | refine J.tk 2 ?_ | (refine J.tkO 2 ?_; first | refine J.giveT (Gives.build (vs := [(0, ptr d 0), (1, gv N)]) (cells := #[ptr d 0, i64 (48 + 32 * N), i64 32]) rfl rfl rfl) rfl rfl ?_))
  refine J.tk 3 ?_
  refine J.tk 4 ?_
  (first | refine J.tk 5 ?_ | (refine J.tkO 5 ?_; first | refine J.giveT (Gives.build (vs := [(0, ptr d 0), (1, gv N)]) (cells := #[ptr d 0, i64 (48 + 32 * N), i64 32]) rfl rfl rfl) rfl rfl ?_))
  refine J.tk 6 ?_
  refine J.on 7 ?_ -- call
  refine J.front 2 rfl rfl ?_
  (refine J.isCallF ?_; refine J.call (H1 := [_]) (Clone fv xs Hf hf hn) rfl rfl rfl rfl ?_)
  rintro r _ ⟨n, Hr, hr, rfl⟩
  refine J.put rfl ?_; refine J.held (Sub.cons 2 rfl (Sub.cons 3 rfl Sub.nil)) ?_; refine J.nm ?_
  have hr1 := hr.one
  (first | refine J.tk 8 ?_ | (refine J.tkO 8 ?_; first | refine J.giveT (Gives.build (vs := [(0, ptr d 0), (1, gv N)]) (cells := #[ptr d 0, i64 (48 + 32 * N), i64 32]) rfl rfl rfl) rfl rfl ?_ | refine J.giveT (Gives.build (vs := [(0, .agg #[ptr d 0, i64 (48 + 32 * N), i64 32]), (1, i64 2), (2, i64 gen), (3, x.v), (4, r)]) (cells := (lcell d N gen x r).toArray) rfl rfl (lbuilt d N gen x r hr1)) rfl rfl ?_))
  refine J.on 9 ?_ -- box
  refine J.isBox ?_; refine J.box (cs := lcell d N gen x r) rfl rfl rfl rfl rfl ?_; intro bl
  refine J.held (Sub.cons 3 rfl (Sub.cons 4 rfl Sub.nil)) ?_
  refine J.tk 10 ?_
  refine J.al ?_
  (try refine wk ?_); (repeat (intro b; (try refine wk ?_)))
  refine J.first 3 rfl ?_
  refine J.done_ret (res1 rfl rfl) ?_
  exact ⟨bl, n, r, Hr, rfl, hr, rfl⟩

theorem resA2 {P : Program} {c : Cx} {S : Slots} {H : Hs} {fn : Func} {t u y T m b : Nat} {l r : List Value} {e : TypeId} {z : Nat × Nat} {v v' : Value} [h : Agg P T m] (i : Nat) (hr : fn.results = #[.cell t T, .tmp u, .tmp y]) (hs : S.get t = some (ptr b 0)) (hp : H[i]? = some [(b, .cells l e z)]) (hl : Nat.ble (0 + m) l.length = true) (hv : (l.drop 0).take m = r) (hs' : S.get u = some v) (hs'' : S.get y = some v') :
    ∀ a w, Fr a c.n S → St c.w0 c.K0 w H.flatten → (results fn a.tmps).run P w = .ok (.tuple #[.agg r.toArray, v, v']) w := fun a w hf hst => by
  subst hv
  have h1 := hf.get t _ hs
  have h2 := hf.get u _ hs'
  have h3 := hf.get y _ hs''
  simp only [Array.getD_eq_getD_getElem?] at h1 h2 h3
  have hc := loadCells_run (P := P) hst.has.1 (mem_one hp) (k := 0) (m := m) (by simpa using hl)
  unfold results; simp [hr, h1, h2, h3, asAddr, loadVar, isAgg_agg, size_run h.size, hc]

/-- Where a chunk of so many blocks stands, what is free then. -/
def NextIs (x : Slv) (n : Int) (fv : Value) (xs : List Int) (Hf : Heap) (v : Value) : Prop :=
  (x.pos + n ≤ 32 ∧ v = .tuple #[x.v, fv, .bool true]) ∨ (¬ x.pos + n ≤ 32 ∧ xs = [] ∧ v = .tuple #[x.v, nils, .bool false]) ∨
  (¬ x.pos + n ≤ 32 ∧ ∃ y ys fv', xs = y :: ys ∧ Ints fv' ys Hf ∧ v = .tuple #[({ x with seg := x.next, pos := 0, next := y } : Slv).v, fv', .bool true])

theorem tail_ints {bf kf cap : Nat} {lf : List Value} {ef : TypeId} {y : Int} {ys : List Int} (h1 : (lf.drop kf).take (y :: ys).length = (y :: ys).map (fun x => i64 x)) (h2 : kf + (y :: ys).length ≤ lf.length) (h3 : (y :: ys).length ≤ cap) :
    Ints (Value.slice (some (if cap = Int.toNat 1 then ⟨bf, kf, none⟩ else ⟨bf, kf + Int.toNat 1 * 1, none⟩)) ((y :: ys).length - Int.toNat 1) (cap - Int.toNat 1)) ys [(bf, .cells lf ef (0, 0))] := by
  simp only [List.length_cons] at h1 h2 h3
  have e1 : Int.toNat 1 = 1 := rfl
  simp only [e1, List.length_cons, Nat.add_sub_cancel, Nat.mul_one]
  by_cases hc : cap = 1
  · subst hc
    have : ys = [] := List.eq_nil_of_length_eq_zero (by omega)
    subst this
    exact .inr ⟨bf, kf, 0, lf, ef, by simp, rfl, by simp, by simp at h2 ⊢; omega, by simp⟩
  · refine .inr ⟨bf, kf + 1, cap - 1, lf, ef, by simp [hc], rfl, ?_, by omega, by omega⟩
    rw [← List.drop_drop]
    have := congrArg (List.drop 1) h1
    rw [List.drop_take] at this
    simpa using this
theorem Next (lb d : Nat) (N gen : Int) (x : Slv) (fv : Value) (xs : List Int) (Hf : Heap) (hf : Ints fv xs Hf) (n : Int) (hx : 0 ≤ x.pos ∧ x.pos ≤ 32) (hn : 0 ≤ n ∧ n ≤ 1000) (hl : xs.length ≤ 100000) :
    Sp Tryz.prog 133 #[ptr lb 0, i64 n] [[(lb, .cells (lcell d N gen x fv) 190 (0, 0))], Hf] (fun v H => NextIs x n fv xs Hf v ∧ H = [[(lb, .cells (lcell d N gen x fv) 190 (0, 0))], Hf]) := by
  refine Sp.intro Tryz.func133 rfl rfl rfl fun w K => ?_
  have hfv : fv.oneCell' = true := by rcases hf with ⟨rfl, _⟩ | ⟨_, _, _, _, _, rfl, _⟩ <;> rfl
  (try refine wk ?_); (repeat (intro b; (try refine wk ?_)))
  obtain ⟨bx, rfl⟩ : ∃ q, q = b := ⟨b, rfl⟩
  refine J.front 2 rfl rfl ?_
  (refine J.op rfl ?_; refine J.isCallF ?_; refine J.call (H1 := [_]) (RoomOf lb d N gen x fv n hx hn) rfl rfl rfl rfl ?_)
  rintro _ _ ⟨rfl, rfl⟩; refine J.put rfl ?_; refine J.nm ?_
  by_cases hroom : x.pos + n ≤ 32
  · (try refine wk ?_); (repeat (intro b; (try refine wk ?_)))
    refine J.any Tryz.mixed [[(bx, .cells x.cells 57 (0, 0))], [(lb, .cells (lcell d N gen x fv) 190 (0, 0))]] ?_
    refine J.tk 0 ?_
    refine J.tk 1 ?_
    refine J.tk 2 ?_
    refine J.tk 3 ?_
    refine J.tk 4 ?_
    refine J.on 5 ?_ -- store
    (refine wo ?_; (try intro b))
    refine J.held (Sub.cons 1 rfl (Sub.cons 0 rfl Sub.nil)) ?_
    refine J.tk 6 ?_
    refine J.tk 7 ?_
    refine J.al ?_
    (try refine wk ?_); (repeat (intro b; (try refine wk ?_)))
    refine J.perm (H' := [[(lb, .cells (lcell d N gen x fv) 190 (0, 0))], Hf, [(b, .cells x.cells 57 (0, 0))], [(bx, .cells x.cells 57 (0, 0))]]) ?_ ?_
    · exact ((List.reverse_perm [[(bx, HO.cells x.cells 57 (0, 0))], [(b, HO.cells x.cells 57 (0, 0))], Hf]).cons _)
    exact J.done_first 2 (resA2 2 rfl rfl rfl rfl rfl rfl rfl) rfl ⟨.inl ⟨hroom, rfl⟩, rfl⟩
  · rcases hf with ⟨rfl, rfl, rfl⟩ | ⟨bf, kf, cap, lf, ef, rfl, rfl, h1, h2, h3⟩
    · (try refine wk ?_); (repeat (intro b; (try refine wk ?_)))
      refine J.perm (H' := [[(lb, .cells (lcell d N gen x nils) 190 (0, 0))], [], [(b, .cells x.cells 57 (0, 0))], [(bx, .cells x.cells 57 (0, 0))]]) ?_ ?_
      · exact ((List.reverse_perm [[(bx, HO.cells x.cells 57 (0, 0))], [(b, HO.cells x.cells 57 (0, 0))], []]).cons _)
      exact J.done_first 2 (resA2 2 rfl rfl rfl rfl rfl rfl rfl) rfl ⟨.inr (.inl ⟨hroom, rfl, rfl⟩), rfl⟩
    · cases xs with
      | nil =>
        have h0 : ((([] : List Int).length : Nat) : Int) = 0 := rfl
        (try refine wk ?_); (repeat (intro b; (try refine wk ?_)))
        refine J.perm (H' := [[(lb, .cells (lcell d N gen x (slc bf kf 0 cap)) 190 (0, 0))], [(bf, .cells lf ef (0, 0))], [(b, .cells x.cells 57 (0, 0))], [(bx, .cells x.cells 57 (0, 0))]]) ?_ ?_
        · exact ((List.reverse_perm [[(bx, HO.cells x.cells 57 (0, 0))], [(b, HO.cells x.cells 57 (0, 0))], [(bf, HO.cells lf ef (0, 0))]]).cons _)
        exact J.done_first 2 (resA2 2 rfl rfl rfl rfl rfl rfl rfl) rfl ⟨.inr (.inl ⟨hroom, rfl, rfl⟩), rfl⟩
      | cons y ys =>
        have h0 : ¬ (((y :: ys).length : Nat) : Int) = 0 := by simp; omega
        have hy : lf[kf + (0 : Int).toNat * 1]? = some (i64 y) := by
          have := congrArg (fun l => l[0]?) h1
          simpa [List.getElem?_take] using this
        (try refine wk ?_); (repeat (intro b; (try refine wk ?_)))
        refine J.anyP Tryz.mixed [[(lb, .cells (lcell d N gen x (slc bf kf (y :: ys).length cap)) 190 (0, 0))], [(bf, .cells lf ef (0, 0))]] [[(bx, .cells x.cells 57 (0, 0))]] 9 ?_
        refine J.tkG 0 ?_
        (first | (first | refine J.tkL 1 ?_ | (refine J.tkLO 1 ?_; first | refine J.giveT (Gives.load1 1 rfl rfl rfl hy) rfl rfl ?_)) | (first | refine J.tkP 1 [1, 8, 9, 10, 11, 12, 13] ?_ | (refine J.tkPO 1 [1, 8, 9, 10, 11, 12, 13] ?_; first | refine J.giveT (Gives.load1 1 rfl rfl rfl hy) rfl rfl ?_)))
        refine J.tkG 2 ?_
        refine J.tkG 3 ?_
        refine J.tkG 4 ?_
        (first | refine J.tkL 5 ?_ | (refine J.tkLO 5 ?_; first | refine J.giveT (Gives.load1 1 rfl rfl rfl hy) rfl rfl ?_))
        (first | refine J.tkG 6 ?_ | (refine J.tkGO 6 ?_; first | refine J.giveT (Gives.load1 1 rfl rfl rfl hy) rfl rfl ?_))
        (first | refine J.tkL 7 ?_ | (refine J.tkLO 7 ?_; first | refine J.giveT (Gives.load1 1 rfl rfl rfl hy) rfl rfl ?_))
        refine J.tkG 8 ?_
        refine J.onP 9 ?_ -- store
        (refine wo ?_; (try intro b))
        refine J.pastP (Sub.cons 0 rfl (Sub.cons 3 rfl Sub.nil)) (by kernel_rfl) ?_
        refine J.tkG 10 ?_
        refine J.onP 11 ?_ -- store
        (refine wo ?_; (try intro b))
        refine J.pastP (Sub.cons 0 rfl (Sub.cons 3 rfl Sub.nil)) (by kernel_rfl) ?_
        refine J.tkG 12 ?_
        refine J.onP 13 ?_ -- store
        (refine wo ?_; (try intro b))
        refine J.pastP (Sub.cons 0 rfl (Sub.cons 3 rfl Sub.nil)) (by kernel_rfl) ?_
        refine J.allP (by kernel_rfl) ?_
        refine J.norm (H' := [[(lb, .cells (lcell d N gen x (slc bf kf (y :: ys).length cap)) 190 (0, 0))], [(bx, .cells ({ x with seg := x.next, pos := 0, next := y } : Slv).cells 57 (0, 0))], [(b, .cells _ 57 (0, 0))], [(bf, .cells lf ef (0, 0))]]) rfl ?_
        have hsl : (0 : Int) ≤ 1 ∧ (1 : Int) ≤ ((y :: ys).length : Nat) := by simp; omega
        have hcc : (((y :: ys).length : Nat) : Int) ≤ cap := by omega
        (try refine wk ?_); (repeat (intro b; (try refine wk ?_)))
        refine J.any Tryz.mixed [[(bx, .cells ({ x with seg := x.next, pos := 0, next := y } : Slv).cells 57 (0, 0))], [(lb, .cells (lcell d N gen x (slc bf kf (y :: ys).length cap)) 190 (0, 0))]] ?_
        (first | refine J.tk 0 ?_ | (refine J.tkO 0 ?_; first | refine J.giveT (Gives.slcFrom rfl rfl rfl hsl hcc) rfl rfl ?_))
        refine J.tk 1 ?_
        refine J.tk 2 ?_
        refine J.tk 3 ?_
        (first | refine J.tk 4 ?_ | (refine J.tkO 4 ?_; first | refine J.giveT (Gives.slcFrom rfl rfl rfl hsl hcc) rfl rfl ?_))
        (first | refine J.tk 5 ?_ | (refine J.tkO 5 ?_; first | refine J.giveT (Gives.slcFrom rfl rfl rfl hsl hcc) rfl rfl ?_))
        refine J.on 6 ?_ -- store
        (refine wo ?_; (try intro b))
        refine J.held (Sub.cons 1 rfl (Sub.cons 0 rfl Sub.nil)) ?_
        refine J.tk 7 ?_
        refine J.tk 8 ?_
        refine J.al ?_
        (try refine wk ?_); (repeat (intro b; (try refine wk ?_)))
        refine J.front 3 rfl rfl ?_; refine J.front 1 rfl rfl ?_
        refine J.nm ?_
        refine J.done_first 2 (resA2 3 rfl rfl rfl rfl rfl rfl rfl) rfl ⟨.inr (.inr ⟨hroom, y, ys, _, rfl, ?_, rfl⟩), rfl⟩
        exact tail_ints h1 h2 h3
end Go.Proofs.YF
namespace Go.Proofs
open YE
instance : Zero Tryz.prog 201 (.agg (List.replicate 256 (.int .i64 0)).toArray) := ⟨by kernel_rfl⟩
instance : ZeroC Tryz.prog 202 (List.replicate 64 (.int .i64 0)) := ⟨by kernel_rfl⟩
end Go.Proofs
namespace Go.Proofs.YF
open Go YE
attribute [local irreducible] CW LW OW XW AW PW HW RW AK HK AP HP DX CI LI OI BW RE MW J Gives
set_option maxHeartbeats 1000000
set_option maxRecDepth 20000

abbrev ints (L : List Int) : List Value := L.map fun x => i64 x
theorem ImapNew : Sp Tryz.prog 84 #[] [] (fun r H => ∃ b, r = ptr b 0 ∧ H = [[(b, .cells (ints (List.replicate 256 0)) 201 (0, 0))]]) := by
  refine Sp.intro Tryz.func84 rfl rfl rfl fun w K => ?_
  (try refine wk ?_); (repeat (intro b; (try refine wk ?_)))
  refine J.op rfl ?_; refine J.isBuild ?_; refine J.give (Gives.build (vs := []) (cells := (List.replicate 256 (i64 0)).toArray) rfl rfl (by kernel_rfl)) rfl rfl ?_
  (try refine wk ?_); (repeat (intro b; (try refine wk ?_)))
  refine J.done_ret (res1 rfl rfl) ?_
  exact ⟨b, rfl, by rw [show ints (List.replicate 256 0) = List.replicate 256 (i64 0) from List.map_replicate]⟩
theorem ImapNone (n : Int) (h : 1 ≤ n ∧ n ≤ 255) : Sp Tryz.prog 130 #[i64 n] [] (Is (.bool false)) := by
  refine Sp.intro Tryz.func130 rfl rfl rfl fun w K => ?_
  (try refine wk ?_); (repeat (intro b; (try refine wk ?_)))
  refine J.clear ?_; refine J.done_ret (res1 rfl rfl) ?_; refine ⟨?_, rfl⟩
  exact congrArg Value.bool (decide_eq_false (by omega))
theorem ImapSet (b : Nat) (L : List Int) (n v : Int) (hL : L.length = 256) (hn : 1 ≤ n ∧ n ≤ 255) (hv : 0 ≤ v ∧ v < 16384) :
    Sp Tryz.prog 85 #[ptr b 0, i64 n, i64 v] [[(b, .cells (ints L) 201 (0, 0))]] (fun r H => r = .bool true ∧ H = [[(b, .cells (ints (L.set n.toNat v)) 201 (0, 0))]]) := by
  refine Sp.intro Tryz.func85 rfl rfl rfl fun w K => ?_
  (try refine wk ?_); (repeat (intro b; (try refine wk ?_)))
  (refine J.op rfl ?_; refine J.isCallF ?_; refine J.call (ImapNone n hn) rfl rfl rfl rfl ?_; rintro _ _ ⟨rfl, rfl⟩; refine J.pn ?_)
  (try refine wk ?_); (repeat (intro b; (try refine wk ?_)))
  have e : 0 + n.toNat * 1 = n.toNat := by omega
  refine J.op rfl ?_; refine J.isStore ?_; refine J.store1 0 rfl rfl rfl rfl rfl ?_ ?_ rfl (H' := [[(b, .cells (ints (L.set n.toNat v)) 201 (0, 0))]]) ?_ ?_
  · rw [e]; simp only [ints, List.length_map, hL, Nat.blt_eq]; omega
  · simp [noFz]
  · rw [e]; simp [ints, List.map_set]
  (try refine wk ?_); (repeat (intro b; (try refine wk ?_)))
  refine J.done_ret (res1 rfl rfl) ?_
  exact ⟨rfl, rfl⟩
theorem Piece (mb : Nat) (L : List Int) (p : Int) (hL : L.length = 256) (hp : 0 ≤ p ∧ p ≤ 3) :
    Sp Tryz.prog 131 #[ptr mb 0, i64 p] [[(mb, .cells (ints L) 201 (0, 0))]] (fun r H => r = .agg (ints ((L.drop (p.toNat * 64)).take 64)).toArray ∧ H = [[(mb, .cells (ints L) 201 (0, 0))]]) := by
  refine Sp.intro Tryz.func131 rfl rfl rfl fun w K => ?_
  (try refine wk ?_); (repeat (intro b; (try refine wk ?_)))
  have hb1 : 0 ≤ p * 64 ∧ p * 64 ≤ (p + 1) * 64 ∧ (p + 1) * 64 ≤ (256 : Nat) := by omega
  have hb2 : p * 64 < (256 : Nat) := by omega
  refine J.op rfl ?_; refine J.isSlice ?_; refine J.give (Gives.arrPart rfl rfl rfl rfl hb1 hb2) rfl rfl ?_
  refine J.op rfl ?_; refine J.give (Gives.arrPtr rfl rfl (by simp only [Nat.ble_eq]; omega)) rfl rfl ?_
  have hk : 0 + (p * 64).toNat * 1 = p.toNat * 64 := by omega
  have hl : Nat.ble (0 + (p * 64).toNat * 1 + 64) (ints L).length = true := by rw [hk]; simp only [ints, List.length_map, hL, Nat.ble_eq]; omega
  have hr : ((ints L).drop (0 + (p * 64).toNat * 1)).take 64 = ints ((L.drop (p.toNat * 64)).take 64) := by rw [hk]; simp [ints, List.map_take, List.map_drop]
  have h64 : (ints ((L.drop (p.toNat * 64)).take 64)).length = 64 := by simp [ints, hL]; omega
  refine J.op rfl ?_; refine J.isLoad ?_; refine J.give (Gives.loadA 1 rfl rfl rfl hl hr) rfl rfl ?_
  refine J.op rfl ?_; refine J.isStore ?_; refine J.storeA (m := 64) 0 rfl rfl rfl h64 ?_ rfl ?_ (by rw [h64]; rfl) rfl (H' := [[(b, .cells (ints ((L.drop (p.toNat * 64)).take 64)) 202 (0, 0))], [(mb, .cells (ints L) 201 (0, 0))]]) ?_ ?_
  · intro v hv
    obtain ⟨q, _, rfl⟩ := List.mem_map.1 hv
    rfl
  · rw [h64]; rfl
  · rw [splice_all (by rw [h64]; rfl)]; rfl
  (try refine wk ?_); (repeat (intro b; (try refine wk ?_)))
  refine J.front 1 rfl rfl ?_
  refine J.nm ?_
  refine J.done_first 1 (resA (r := ints ((L.drop (p.toNat * 64)).take 64)) 1 rfl rfl rfl ?_ ?_) rfl ⟨rfl, rfl⟩
  · rw [h64]; rfl
  · rw [List.drop_zero]; exact List.take_of_length_le (by rw [h64]; exact Nat.le_refl _)

/-- The first k numbers of a list, two bytes each. -/
def put2 (l : List Int) : ByteArray := l.foldl (fun s v => s ++ le v 2) ⟨#[]⟩
theorem put2_snoc (l : List Int) (v : Int) : put2 (l ++ [v]) = put2 l ++ le v 2 := by simp [put2]
theorem put2_size (l : List Int) : (put2 l).size = 2 * l.length := by
  have h : ∀ (l : List Int) (s : ByteArray), (l.foldl (fun s v => s ++ le v 2) s).size = s.size + 2 * l.length := by
    intro l
    induction l with
    | nil => intro s; simp
    | cons x r ih => intro s; simp only [List.foldl_cons, ih, ByteArray.size_append, le_size, List.length_cons]; omega
  have := h l ⟨#[]⟩
  have h0 : (⟨#[]⟩ : ByteArray).size = 0 := rfl
  rw [h0, Nat.zero_add] at this
  exact this
/-- k bytes 0. -/
def zeros (k : Nat) : ByteArray := ⟨(List.replicate k (0 : UInt8)).toArray⟩
theorem zeros_size (k : Nat) : (zeros k).size = k := by simp [zeros, ByteArray.size]
theorem zeros_bv (k : Nat) : bv (zeros k) = List.replicate k (.int .u8 0) := by simp [bv, zeros]
theorem bv_append (s t : ByteArray) : bv (s ++ t) = bv s ++ bv t := by simp [bv, ByteArray.data_append]
/-- A part's block. -/
def partBlock (L : List Int) (p : Nat) : ByteArray := put2 ((L.drop (p * 64)).take 64) ++ zeros 128

theorem splice_rep {a vs : List Value} {z : Value} {q : Nat} : splice (a ++ List.replicate q z) a.length vs = a ++ vs ++ List.replicate (q - vs.length) z := by
  simp [splice]

theorem ImapPut (mb : Nat) (L : List Int) (p : Int) (hL : L.length = 256) (hv : ∀ v, v ∈ L → 0 ≤ v ∧ v < 16384) (hp : 0 ≤ p ∧ p ≤ 3) :
    Sp Tryz.prog 87 #[ptr mb 0, i64 p] [[(mb, .cells (ints L) 201 (0, 0))]] (fun r H => r = .string (partBlock L p.toNat) ∧ H = [[(mb, .cells (ints L) 201 (0, 0))]]) := by
  refine Sp.intro Tryz.func87 rfl rfl rfl fun w K => ?_
  have h64 : (ints ((L.drop (p.toNat * 64)).take 64)).length = 64 := by simp [ints, hL]; omega
  (try refine wk ?_); (repeat (intro b; (try refine wk ?_)))
  refine J.op rfl ?_; refine J.isMakeSlice ?_; refine J.makeSl rfl rfl rfl ?_ rfl rfl ?_
  · decide
  intro b
  refine J.norm (H' := [[(b, .cells (List.replicate 256 (.int .u8 0)) 5 (0, 0))], [(mb, .cells (ints L) 201 (0, 0))]]) ?_ ?_
  · rw [madeCells_flat _ _ rfl]; rfl
  (try refine wk ?_); (repeat (intro b; (try refine wk ?_)))
  refine J.front 1 rfl rfl ?_
  (refine J.op rfl ?_; refine J.isCallF ?_; refine J.call (H1 := [_]) (Piece mb L p hL hp) rfl rfl rfl rfl ?_)
  rintro _ _ ⟨rfl, rfl⟩; refine J.put rfl ?_; refine J.nm ?_
  (try refine wk ?_); (repeat (intro b; (try refine wk ?_)))
  generalize hM : (L.drop (p.toNat * 64)).take 64 = M at *
  have hMl : M.length = 64 := by simpa [ints] using h64
  have hMv : ∀ v, v ∈ M → 0 ≤ v ∧ v < 16384 := fun v h => hv v (by rw [← hM] at h; exact List.mem_of_mem_drop (List.mem_of_mem_take h))
  refine J.pick [5, 17, 18] rfl ?_
  refine J.loop (α := Nat) (fun k => [(5, slc b 0 (2 * k) 256), (17, .agg (ints M).toArray), (18, i64 k)]) (fun k => [[(mb, .cells (ints L) 201 (0, 0))], [(b, .cells (bv (put2 (M.take k)) ++ List.replicate (256 - 2 * k) (.int .u8 0)) 5 (0, 0))]]) (fun k => k ≤ 64) (fun k => 64 - k) 0 (Nat.zero_le _) (fun _ _ h => h) rfl (fun k hk => ?_)
  by_cases hk4 : k < 64
  · have hks : (k : Int) < 64 := by omega
    have hkM : k < M.length := by omega
    have hx : (ints M)[(k : Int).toNat]? = some (i64 M[k]) := by
      rw [Int.toNat_natCast]; unfold ints; rw [List.getElem?_map, List.getElem?_eq_getElem hkM]; rfl
    have hxv := hMv _ (List.getElem_mem hkM)
    have hki : 0 ≤ (k : Int) ∧ (k : Int) < (64 : Nat) := by omega
    (try refine wk ?_); (repeat (intro b; (try refine wk ?_)))
    refine J.op rfl ?_; refine J.isIndex ?_; refine J.give (Gives.indexA1 rfl rfl rfl hki hx) rfl rfl ?_
    (try refine wk ?_); (repeat (intro b; (try refine wk ?_)))
    (refine J.op rfl ?_; refine J.isCallF ?_; refine J.call (BinPut M[k] 2 (by omega) (by decide)) rfl rfl rfl rfl ?_; rintro _ _ ⟨rfl, rfl⟩; refine J.pn ?_)
    have hpz : (put2 (M.take k)).size = 2 * k := by rw [put2_size, List.length_take]; omega
    refine J.op rfl ?_; refine J.isBuiltin ?_; refine J.appendStr 1 rfl rfl rfl rfl ?_ ?_ rfl rfl (H' := [[(mb, .cells (ints L) 201 (0, 0))], [(b, .cells (bv (put2 (M.take (k + 1))) ++ List.replicate (256 - 2 * (k + 1)) (.int .u8 0)) 5 (0, 0))]]) ?_ ?_
    · rw [le_size]; show 2 * k + 2 ≤ 256; omega
    · rw [le_size]; simp only [List.length_append, bv_len, List.length_replicate, hpz]; show 2 * k + 2 ≤ _; omega
    · have e := splice_rep (a := bv (put2 (M.take k))) (vs := bv (le M[k] 2)) (z := .int .u8 0) (q := 256 - 2 * k)
      rw [bv_len, hpz, bv_len, le_size, ← bv_append, ← put2_snoc] at e
      have e2 : M.take k ++ [M[k]] = M.take (k + 1) := by rw [List.take_add_one, List.getElem?_eq_getElem hkM]; rfl
      rw [e2] at e
      have e3 : 256 - 2 * k - 2 = 256 - 2 * (k + 1) := by omega
      rw [e3] at e
      show [_, [(b, HO.cells (splice _ (2 * k) (bv (le M[k] 2))) 5 (0, 0))]] = _
      rw [e]
    (try refine wk ?_); (repeat (intro b; (try refine wk ?_)))
    refine J.slot 5 (slc b 0 (2 * (k + 1)) 256) rfl ?_ ?_
    · rw [le_size]; rfl
    refine J.pick [5, 17, 18] rfl ?_
    exact J.round (k + 1) hk4 (by omega) (fun _ _ h => h) rfl
  · (try refine wk ?_); (repeat (intro b; (try refine wk ?_)))
    obtain rfl : k = 64 := by omega
    have hpz : (put2 (M.take 64)).size = 128 := by rw [put2_size, List.length_take]; omega
    have hM64 : M.take 64 = M := List.take_of_length_le (by omega)
    rw [hM64] at hpz
    refine J.norm (H' := [[(mb, .cells (ints L) 201 (0, 0))], [(b, .cells (bv (put2 M) ++ List.replicate 128 (.int .u8 0)) 5 (0, 0))]]) (by rw [hM64]) ?_
    refine J.op rfl ?_; refine J.isBuiltin ?_; refine J.appendZ 1 rfl rfl rfl rfl ?_ (by decide) rfl ?_ ?_ rfl rfl (H' := [[(mb, .cells (ints L) 201 (0, 0))], [(b, .cells (bv (put2 M ++ zeros 128)) 5 (0, 0))]]) ?_ ?_
    · decide
    · decide
    · simp only [List.length_append, bv_len, List.length_replicate, hpz]; decide
    · have e := splice_rep (a := bv (put2 M)) (vs := List.replicate 128 (.int .u8 0)) (z := .int .u8 0) (q := 128)
      rw [bv_len, hpz] at e
      show [_, [(b, HO.cells (splice _ 128 (List.replicate 128 _)) 5 (0, 0))]] = _
      rw [e, bv_append, zeros_bv]
      simp
    have hsz : (put2 M ++ zeros 128).size = 256 := by rw [ByteArray.size_append, hpz, zeros_size]
    refine J.op rfl ?_; refine J.isConv ?_; refine J.give (Gives.bytesStr (s := put2 M ++ zeros 128) 1 rfl rfl rfl hsz ?_) rfl rfl ?_
    · rw [List.drop_zero]; exact List.take_of_length_le (by rw [bv_len, hsz]; exact Nat.le_refl _)
    (try refine wk ?_); (repeat (intro b; (try refine wk ?_)))
    refine J.first 1 rfl ?_
    refine J.done_ret (res1 rfl rfl) ?_
    refine ⟨?_, rfl⟩
    rw [partBlock, hM]
end Go.Proofs.YF
namespace Go.Proofs.YF
open Go YE
attribute [local irreducible] CW LW OW XW AW PW HW RW AK HK AP HP DX CI LI OI BW RE MW J Gives
set_option maxHeartbeats 1000000
set_option maxRecDepth 20000

structure Ent where (kind node part : Int)
abbrev Ent.cells (e : Ent) : List Value := [i64 e.kind, i64 e.node, i64 e.part]
structure Ent.Ok (e : Ent) : Prop where
  kind : 1 ≤ e.kind ∧ e.kind ≤ 5
  node : 1 ≤ e.node ∧ e.node ≤ 255
  part : 0 ≤ e.part ∧ e.part ≤ (if e.kind = 1 then 587 else if e.kind = 2 then 9 else if e.kind = 4 then 3 else 0)
  map : e.kind ≠ 4 ∨ e.node = 1
theorem EntryT (e : Ent) (h : e.Ok) : Sp Tryz.prog 223 #[.agg #[i64 e.kind, i64 e.node, i64 e.part]] [] (Is (.bool true)) := by
  refine Sp.intro Tryz.func223 rfl rfl rfl fun w K => ?_
  obtain ⟨⟨k1, k2⟩, ⟨n1, n2⟩, ⟨p1, p2⟩, hm⟩ := h
  by_cases h1 : e.kind = 1
  · have h4 : ¬ e.kind = 4 := by omega
    rw [if_pos h1] at p2
    repeat' (first | refine wk ?_ | intro b | (refine J.op rfl ?_; refine J.isCallF ?_; refine J.call (H1 := []) (HeadInT _ _ _ ?_ ?_) rfl rfl rfl rfl ?_; (focus (first | omega | assumption)); (focus (first | omega | assumption)); rintro _ _ ⟨rfl, rfl⟩; refine J.pn ?_) | (refine J.want rfl rfl rfl ?_; refine J.isCallF ?_; refine J.call (H1 := []) (HeadInT _ _ _ ?_ ?_) rfl rfl rfl rfl ?_; (focus (first | omega | assumption)); (focus (first | omega | assumption)); rintro _ _ ⟨rfl, rfl⟩; refine J.pn ?_))
    refine J.clear ?_; refine J.done_ret (res1 rfl rfl) ?_; refine ⟨?_, rfl⟩
    simp [h4]
  · rw [if_neg h1] at p2
    by_cases h2 : e.kind = 2
    · have h4 : ¬ e.kind = 4 := by omega
      rw [if_pos h2] at p2
      repeat' (first | refine wk ?_ | intro b | (refine J.op rfl ?_; refine J.isCallF ?_; refine J.call (H1 := []) (HeadInT _ _ _ ?_ ?_) rfl rfl rfl rfl ?_; (focus (first | omega | assumption)); (focus (first | omega | assumption)); rintro _ _ ⟨rfl, rfl⟩; refine J.pn ?_) | (refine J.want rfl rfl rfl ?_; refine J.isCallF ?_; refine J.call (H1 := []) (HeadInT _ _ _ ?_ ?_) rfl rfl rfl rfl ?_; (focus (first | omega | assumption)); (focus (first | omega | assumption)); rintro _ _ ⟨rfl, rfl⟩; refine J.pn ?_))
      refine J.clear ?_; refine J.done_ret (res1 rfl rfl) ?_; refine ⟨?_, rfl⟩
      simp [h4]
    · rw [if_neg h2] at p2
      by_cases h4 : e.kind = 4
      · rw [if_pos h4] at p2
        have hn : e.node = 1 := by rcases hm with h | h
                                   · exact absurd h4 h
                                   · exact h
        repeat' (first | refine wk ?_ | intro b | (refine J.op rfl ?_; refine J.isCallF ?_; refine J.call (H1 := []) (HeadInT _ _ _ ?_ ?_) rfl rfl rfl rfl ?_; (focus (first | omega | assumption)); (focus (first | omega | assumption)); rintro _ _ ⟨rfl, rfl⟩; refine J.pn ?_) | (refine J.want rfl rfl rfl ?_; refine J.isCallF ?_; refine J.call (H1 := []) (HeadInT _ _ _ ?_ ?_) rfl rfl rfl rfl ?_; (focus (first | omega | assumption)); (focus (first | omega | assumption)); rintro _ _ ⟨rfl, rfl⟩; refine J.pn ?_))
        refine J.clear ?_; refine J.done_ret (res1 rfl rfl) ?_; refine ⟨?_, rfl⟩
        simp [hn]
      · rw [if_neg h4] at p2
        repeat' (first | refine wk ?_ | intro b | (refine J.op rfl ?_; refine J.isCallF ?_; refine J.call (H1 := []) (HeadInT _ _ _ ?_ ?_) rfl rfl rfl rfl ?_; (focus (first | omega | assumption)); (focus (first | omega | assumption)); rintro _ _ ⟨rfl, rfl⟩; refine J.pn ?_) | (refine J.want rfl rfl rfl ?_; refine J.isCallF ?_; refine J.call (H1 := []) (HeadInT _ _ _ ?_ ?_) rfl rfl rfl rfl ?_; (focus (first | omega | assumption)); (focus (first | omega | assumption)); rintro _ _ ⟨rfl, rfl⟩; refine J.pn ?_))
        refine J.clear ?_; refine J.done_ret (res1 rfl rfl) ?_; refine ⟨?_, rfl⟩
        simp [h4]
end Go.Proofs.YF
namespace Go.Proofs.YF
open Go YE
attribute [local irreducible] CW LW OW XW AW PW HW RW AK HK AP HP DX CI LI OI BW RE MW J Gives
set_option maxHeartbeats 1000000
set_option maxRecDepth 20000

def ecells (es : List Ent) : List Value := es.flatMap Ent.cells
/-- A head's numbers. -/
structure Hdv where (house gen life seq next clock sb sn : Int)
abbrev Hdv.cells (h : Hdv) (lv : Value) : List Value := [i64 h.house, i64 h.gen, i64 h.life, i64 h.seq, i64 h.next, i64 h.clock, i64 h.sb, i64 h.sn, lv]
abbrev Hdv.v (h : Hdv) (lv : Value) : Value := .agg #[i64 h.house, i64 h.gen, i64 h.life, i64 h.seq, i64 h.next, i64 h.clock, i64 h.sb, i64 h.sn, lv]
structure Hdv.Ok (h : Hdv) : Prop where
  house : 1 ≤ h.house ∧ h.house ≤ 16
  gen : 1 ≤ h.gen ∧ h.gen ≤ 65535
  life : 1 ≤ h.life ∧ h.life ≤ 1000000
  seq : 1 ≤ h.seq ∧ h.seq ≤ 1000000000
  next : 0 ≤ h.next ∧ h.next ≤ 1000
  clock : 0 ≤ h.clock ∧ h.clock ≤ 1099511627776
  sb : 0 ≤ h.sb ∧ h.sb ≤ 1099511627777
  sn : 0 ≤ h.sn ∧ h.sn ≤ 1099511627777
theorem HeadCheck (h : Hdv) (ho : h.Ok) (lv : Value) (n : Nat) (es : List Ent) (Hl : Heap) (hl : Sl 131 3 lv n (ecells es) Hl) (hn : es.length ≤ 24) (he : ∀ e, e ∈ es → e.Ok) :
    Sp Tryz.prog 183 #[h.v lv] [Hl] (fun r H => r = .bool true ∧ H = [Hl]) := by
  refine Sp.intro Tryz.func183 rfl rfl rfl fun w K => ?_
  have hnl : es.length = n := by
    have h1 := hl.len
    have h2 := flat_len (f := Ent.cells) (m := 3) es (fun _ _ => rfl)
    unfold ecells at h1; omega
  obtain ⟨h1, h2, h3, h4, h5, h6, h7, h8⟩ := ho
  rcases hl with ⟨rfl, h0, _, rfl⟩ | ⟨bl, cap, rest, rfl, rfl, g1, g2, g3, g4⟩
  · repeat' (first | refine wk ?_ | intro b | (refine J.op rfl ?_; refine J.isCallF ?_; refine J.call (H1 := []) (HeadInT _ _ _ ?_ ?_) rfl rfl rfl rfl ?_; (focus (first | omega | assumption)); (focus (first | omega | assumption)); rintro _ _ ⟨rfl, rfl⟩; refine J.pn ?_) | (refine J.want rfl rfl rfl ?_; refine J.isCallF ?_; refine J.call (H1 := []) (HeadInT _ _ _ ?_ ?_) rfl rfl rfl rfl ?_; (focus (first | omega | assumption)); (focus (first | omega | assumption)); rintro _ _ ⟨rfl, rfl⟩; refine J.pn ?_))
    refine J.pick [3, 51, 52, 53] rfl ?_
    refine J.loop (α := Unit) (fun _ => _) (fun _ => _) (fun _ => True) (fun _ => 0) () trivial (fun _ _ h => h) rfl (fun _ _ => ?_)
    (try refine wk ?_); (repeat (intro b; (try refine wk ?_)))
    refine J.drop 0 ?_
    refine J.done_ret (res1 rfl rfl) ?_
    exact ⟨rfl, rfl⟩
  · have hn24 : (n : Int) ≤ 24 := by omega
    repeat' (first | refine wk ?_ | intro b | (refine J.op rfl ?_; refine J.isCallF ?_; refine J.call (H1 := []) (HeadInT _ _ _ ?_ ?_) rfl rfl rfl rfl ?_; (focus (first | omega | assumption)); (focus (first | omega | assumption)); rintro _ _ ⟨rfl, rfl⟩; refine J.pn ?_) | (refine J.want rfl rfl rfl ?_; refine J.isCallF ?_; refine J.call (H1 := []) (HeadInT _ _ _ ?_ ?_) rfl rfl rfl rfl ?_; (focus (first | omega | assumption)); (focus (first | omega | assumption)); rintro _ _ ⟨rfl, rfl⟩; refine J.pn ?_))
    refine J.slot 3 (.bool true) rfl (congrArg Value.bool (decide_eq_true hn24)) ?_
    refine J.pick [3, 51, 52, 53] rfl ?_
    refine J.drop 0 ?_
    refine J.loop (α := Nat) (fun k => [(3, .bool true), (51, slc bl 0 n cap), (52, i64 n), (53, i64 k)]) (fun _ => [[(bl, .cells (ecells es ++ rest) 131 (0, 0))]]) (fun k => k ≤ n) (fun k => n - k) 0 (Nat.zero_le _) (fun _ _ h => h) rfl (fun k hk => ?_)
    by_cases hkn : k < n
    · have hks : (k : Int) < n := by omega
      have hke : k < es.length := by omega
      have hok := he _ (List.getElem_mem hke)
      have hnk : (0 + (k : Int).toNat * 3) = k * 3 := by simp
      have hl0 : Nat.ble (0 + (k : Int).toNat * 3 + 3) (ecells es ++ rest).length = true := by
        rw [hnk, g2]; simp only [Nat.ble_eq]
        have : (k + 1) * 3 ≤ cap * 3 := Nat.mul_le_mul_right _ (by omega)
        omega
      have hr0 : ((ecells es ++ rest).drop (0 + (k : Int).toNat * 3)).take 3 = es[k].cells := by
        rw [hnk]; exact flat_take (f := Ent.cells) es k _ rest (fun _ _ => rfl) (List.getElem?_eq_getElem hke)
      generalize es[k] = q at *
      (try refine wk ?_); (repeat (intro b; (try refine wk ?_)))
      refine J.op rfl ?_; refine J.isLoad ?_; refine J.give (Gives.loadA 0 rfl rfl rfl hl0 hr0) rfl rfl ?_
      (try refine wk ?_); (repeat (intro b; (try refine wk ?_)))
      refine J.want rfl rfl rfl ?_
      (refine J.isCallF ?_; refine J.call (EntryT q hok) rfl rfl rfl rfl ?_; rintro _ _ ⟨rfl, rfl⟩; refine J.pn ?_)
      (try refine wk ?_); (repeat (intro b; (try refine wk ?_)))
      refine J.pick [3, 51, 52, 53] rfl ?_
      refine J.drop 0 ?_
      exact J.round (k + 1) hkn (by omega) (fun _ _ h => h) rfl
    · (try refine wk ?_); (repeat (intro b; (try refine wk ?_)))
      refine J.done_ret (res1 rfl rfl) ?_
      exact ⟨rfl, rfl⟩

/-- The sum of a head's block and what stands behind. -/
theorem HeadSum (s t : ByteArray) (hs : s.size = 252) (ht : t.size ≤ 1000000) : Sp Tryz.prog 227 #[.string s, .string t] [] (Is (i64 (crc (crc 0 s) t))) := by
  refine Sp.intro Tryz.func227 rfl rfl rfl fun w K => ?_
  have hmin : min (s.size : Int) 252 = 252 := by omega
  (try refine wk ?_); (repeat (intro b; (try refine wk ?_)))
  have hex : s.extract 0 (min (s.size : Int) 252).toNat = s := by
    rw [hmin, show (252 : Int).toNat = s.size from by rw [hs]; rfl]; simp
  refine J.slot 9 (.string s) rfl (congrArg Value.string hex) ?_
  (refine J.op rfl ?_; refine J.isCallF ?_; refine J.call (CrcOf s (by omega)) rfl rfl rfl rfl ?_; rintro _ _ ⟨rfl, rfl⟩; refine J.pn ?_)
  (try refine wk ?_); (repeat (intro b; (try refine wk ?_)))
  (refine J.op rfl ?_; refine J.isCallF ?_; refine J.call (CrcMore (crc 0 s) t (by omega)) rfl rfl rfl rfl ?_; rintro _ _ ⟨rfl, rfl⟩; refine J.pn ?_)
  (try refine wk ?_); (repeat (intro b; (try refine wk ?_)))
  refine J.clear ?_; refine J.done_ret (res1 rfl rfl) ?_; refine ⟨?_, rfl⟩
  exact congrArg i64 (crc_i64 _ _)
end Go.Proofs.YF
namespace Go.Proofs.YF
open Go YE
attribute [local irreducible] CW LW OW XW AW PW HW RW AK HK AP HP DX CI LI OI BW RE MW J Gives
set_option maxHeartbeats 1000000
set_option maxRecDepth 20000

theorem HeadPut1 (s : ByteArray) (b : Nat) (v : Int) (n : Nat) (hv : 0 ≤ v ∧ v ≤ 9223372036854775807) (hn : n ≤ 7) (hs : s.size ≤ 1000000) :
    Sp Tryz.prog 224 #[ptr b 0, i64 v, i64 n] [[(b, .cells [.string s] 294 (0, 0))]] (fun _ H => H = [[(b, .cells [.string (s ++ le v n)] 294 (0, 0))]]) := by
  refine Sp.intro Tryz.func224 rfl rfl rfl fun w K => ?_
  refine J.anyK Tryz.mixed [[(b, .cells [.string s] 294 (0, 0))]] 10 ?_
  refine J.tkF 0 ?_
  refine J.tkF 1 ?_
  refine J.tkF 2 ?_
  refine J.tkK 3 [3, 7, 8, 9, 10] ?_
  refine J.tkF 4 ?_
  refine J.tkF 5 ?_
  refine J.onK 6 ?_ -- call
  (refine J.isCallF ?_; refine J.call (H1 := []) (BinPut v n hv (by omega)) rfl rfl rfl rfl ?_; rintro _ _ ⟨rfl, rfl⟩; refine J.put rfl ?_; refine J.heldK (Sub.cons 0 rfl Sub.nil) ?_; refine J.nm ?_)
  have hl : s.size + (le v (n : Int).toNat).size ≤ 9223372036854775807 := by rw [le_size]; omega
  (first | refine J.tkF 7 ?_ | (refine J.tkFO 7 ?_; first | refine J.giveT (Gives.strAdd rfl rfl rfl hl) rfl rfl ?_))
  refine J.tkF 8 ?_
  refine J.tkF 9 ?_
  refine J.onK 10 ?_ -- store
  (refine wo ?_; (try intro b))
  refine J.pastK (by kernel_rfl) ?_
  refine J.allK (by kernel_rfl) ?_
  refine J.done (fun a w _ _ => res0 rfl a.tmps w) ?_
  rfl

def headMark : ByteArray := ⟨#[66, 71, 67, 72]⟩
theorem headMark_size : headMark.size = 4 := rfl
def headBase (h : Hdv) (n : Nat) : ByteArray :=
  headMark ++ le h.house 1 ++ le h.gen 2 ++ le h.life 3 ++ le h.seq 6 ++ le h.next 2 ++ le h.clock 6 ++ le h.sb 6 ++ le h.sn 6 ++ le n 1
theorem headBase_size (h : Hdv) (n : Nat) : (headBase h n).size = 37 := by simp [headBase, ByteArray.size_append, le_size, headMark_size]
def ents (s : ByteArray) (es : List Ent) : ByteArray := es.foldl (fun s e => s ++ le e.kind 1 ++ le e.node 1 ++ le e.part 2) s
theorem ents_size : ∀ (es : List Ent) (s : ByteArray), (ents s es).size = s.size + 4 * es.length := by
  intro es
  induction es with
  | nil => intro s; simp [ents]
  | cons e r ih => intro s; have := ih (s ++ le e.kind 1 ++ le e.node 1 ++ le e.part 2); simp only [ents, List.foldl_cons] at this ⊢; rw [this]; simp only [ByteArray.size_append, le_size, List.length_cons]; omega
/-- A head's bytes, but its sum. -/
def headText (h : Hdv) (es : List Ent) : ByteArray := padn (ents (headBase h es.length) es) (252 - (37 + 4 * es.length))
theorem headText_size (h : Hdv) (es : List Ent) (hn : es.length ≤ 24) : (headText h es).size = 252 := by rw [headText, padn_size, ents_size, headBase_size]; omega

theorem HeadBytes (h : Hdv) (ho : h.Ok) (lv : Value) (n : Nat) (es : List Ent) (Hl : Heap) (hl : Sl 131 3 lv n (ecells es) Hl) (hn : es.length ≤ 24) (he : ∀ e, e ∈ es → e.Ok) :
    Sp Tryz.prog 184 #[h.v lv] [Hl] (fun r H => r = .string (headText h es) ∧ H = [Hl]) := by
  refine Sp.intro Tryz.func184 rfl rfl rfl fun w K => ?_
  have hnl : es.length = n := by
    have h1 := hl.len
    have h2 := flat_len (f := Ent.cells) (m := 3) es (fun _ _ => rfl)
    unfold ecells at h1; omega
  obtain ⟨h1, h2, h3, h4, h5, h6, h7, h8⟩ := ho
  rcases hl with ⟨rfl, h0, hc0, rfl⟩ | ⟨bl, cap, rest, rfl, rfl, g1, g2, g3, g4⟩
  · obtain rfl : n = 0 := h0
    obtain rfl : es = [] := List.eq_nil_of_length_eq_zero hnl
    (try refine wk ?_); (repeat (intro b; (try refine wk ?_)))
    obtain ⟨bh, rfl⟩ : ∃ q, q = b := ⟨b, rfl⟩
    refine J.op rfl ?_; refine J.isBuild ?_; refine J.give (Gives.build (vs := [(0, .string headMark)]) (cells := #[.string headMark]) rfl rfl (by kernel_rfl)) rfl rfl ?_
    (try refine wk ?_); (repeat (intro b; (try refine wk ?_)))
    (refine J.op rfl ?_; refine J.isCallV ?_; refine J.callV (HeadPut1 _ _ _ 1 ?_ ?_ ?_) rfl rfl rfl rfl rfl rfl ?_; (focus omega); (focus omega); (focus (simp only [padn_size, ents_size, ByteArray.size_append, le_size, headMark_size]; decide)); rintro _ _ rfl; refine J.put rfl ?_; refine J.nm ?_)
    (try refine wk ?_); (repeat (intro b; (try refine wk ?_)))
    (refine J.op rfl ?_; refine J.isCallV ?_; refine J.callV (HeadPut1 _ _ _ 2 ?_ ?_ ?_) rfl rfl rfl rfl rfl rfl ?_; (focus omega); (focus omega); (focus (simp only [padn_size, ents_size, ByteArray.size_append, le_size, headMark_size]; decide)); rintro _ _ rfl; refine J.put rfl ?_; refine J.nm ?_)
    (try refine wk ?_); (repeat (intro b; (try refine wk ?_)))
    (refine J.op rfl ?_; refine J.isCallV ?_; refine J.callV (HeadPut1 _ _ _ 3 ?_ ?_ ?_) rfl rfl rfl rfl rfl rfl ?_; (focus omega); (focus omega); (focus (simp only [padn_size, ents_size, ByteArray.size_append, le_size, headMark_size]; decide)); rintro _ _ rfl; refine J.put rfl ?_; refine J.nm ?_)
    (try refine wk ?_); (repeat (intro b; (try refine wk ?_)))
    (refine J.op rfl ?_; refine J.isCallV ?_; refine J.callV (HeadPut1 _ _ _ 6 ?_ ?_ ?_) rfl rfl rfl rfl rfl rfl ?_; (focus omega); (focus omega); (focus (simp only [padn_size, ents_size, ByteArray.size_append, le_size, headMark_size]; decide)); rintro _ _ rfl; refine J.put rfl ?_; refine J.nm ?_)
    (try refine wk ?_); (repeat (intro b; (try refine wk ?_)))
    (refine J.op rfl ?_; refine J.isCallV ?_; refine J.callV (HeadPut1 _ _ _ 2 ?_ ?_ ?_) rfl rfl rfl rfl rfl rfl ?_; (focus omega); (focus omega); (focus (simp only [padn_size, ents_size, ByteArray.size_append, le_size, headMark_size]; decide)); rintro _ _ rfl; refine J.put rfl ?_; refine J.nm ?_)
    (try refine wk ?_); (repeat (intro b; (try refine wk ?_)))
    (refine J.op rfl ?_; refine J.isCallV ?_; refine J.callV (HeadPut1 _ _ _ 6 ?_ ?_ ?_) rfl rfl rfl rfl rfl rfl ?_; (focus omega); (focus omega); (focus (simp only [padn_size, ents_size, ByteArray.size_append, le_size, headMark_size]; decide)); rintro _ _ rfl; refine J.put rfl ?_; refine J.nm ?_)
    (try refine wk ?_); (repeat (intro b; (try refine wk ?_)))
    (refine J.op rfl ?_; refine J.isCallV ?_; refine J.callV (HeadPut1 _ _ _ 6 ?_ ?_ ?_) rfl rfl rfl rfl rfl rfl ?_; (focus omega); (focus omega); (focus (simp only [padn_size, ents_size, ByteArray.size_append, le_size, headMark_size]; decide)); rintro _ _ rfl; refine J.put rfl ?_; refine J.nm ?_)
    (try refine wk ?_); (repeat (intro b; (try refine wk ?_)))
    (refine J.op rfl ?_; refine J.isCallV ?_; refine J.callV (HeadPut1 _ _ _ 6 ?_ ?_ ?_) rfl rfl rfl rfl rfl rfl ?_; (focus omega); (focus omega); (focus (simp only [padn_size, ents_size, ByteArray.size_append, le_size, headMark_size]; decide)); rintro _ _ rfl; refine J.put rfl ?_; refine J.nm ?_)
    (try refine wk ?_); (repeat (intro b; (try refine wk ?_)))
    (refine J.op rfl ?_; refine J.isCallV ?_; refine J.callV (HeadPut1 _ _ _ 1 ?_ ?_ ?_) rfl rfl rfl rfl rfl rfl ?_; (focus omega); (focus omega); (focus (simp only [padn_size, ents_size, ByteArray.size_append, le_size, headMark_size]; decide)); rintro _ _ rfl; refine J.put rfl ?_; refine J.nm ?_)
    (try refine wk ?_); (repeat (intro b; (try refine wk ?_)))
    obtain ⟨bw, rfl⟩ : ∃ q, q = b := ⟨b, rfl⟩
    refine J.pick [3, 4, 49, 50, 51] rfl ?_
    refine J.loop (α := Unit) (fun _ => _) (fun _ => _) (fun _ => True) (fun _ => 0) () trivial (fun _ _ h => h) rfl (fun _ _ => ?_)
    (try refine wk ?_); (repeat (intro b; (try refine wk ?_)))
    generalize hes : ([] : List Ent) = es at *
    have hn : es.length ≤ 24 := by rw [← hes]; decide
    refine J.norm (H' := [[(bw, .cells [.string (ents (headBase h es.length) es)] 294 (0, 0))], [(bh, .cells (h.cells nils) 95 (0, 0))], []]) (by rw [← hes]; rfl) ?_
    refine J.pick [3, 4] rfl ?_
    refine J.loop (α := Nat) (fun k => [(3, ptr bw 0), (4, .func (.func 224) #[ptr bw 0] #[])]) (fun k => [[(bw, .cells [.string (padn (ents (headBase h es.length) es) k)] 294 (0, 0))], [(bh, .cells (h.cells nils) 95 (0, 0))], []]) (fun k => k ≤ 252 - (37 + 4 * es.length)) (fun k => 252 - (37 + 4 * es.length) - k) 0 (Nat.zero_le _) (fun _ _ h => h) rfl (fun k hk => ?_)
    have hsz : (padn (ents (headBase h es.length) es) k).size = 37 + 4 * es.length + k := by rw [padn_size, ents_size, headBase_size]
    by_cases hk4 : k < 252 - (37 + 4 * es.length)
    · have hks : ((padn (ents (headBase h es.length) es) k).size : Int) < 252 := by omega
      (try refine wk ?_); (repeat (intro b; (try refine wk ?_)))
      (refine J.op rfl ?_; refine J.isCallV ?_; refine J.callV (HeadPut1 _ _ _ 1 ?_ ?_ ?_) rfl rfl rfl rfl rfl rfl ?_; (focus omega); (focus omega); (focus (simp only [padn_size, ents_size, ByteArray.size_append, le_size, headMark_size]; rw [headBase_size]; omega)); rintro _ _ rfl; refine J.put rfl ?_; refine J.nm ?_)
      refine J.nil ?_
      (try refine wk ?_); (repeat (intro b; (try refine wk ?_)))
      refine J.pick [3, 4] rfl ?_
      exact J.round (k + 1) hk4 (by omega) (fun _ _ h => h) rfl
    · have hks : ¬ ((padn (ents (headBase h es.length) es) k).size : Int) < 252 := by omega
      (try refine wk ?_); (repeat (intro b; (try refine wk ?_)))
      obtain rfl : k = 252 - (37 + 4 * es.length) := by omega
      refine J.front 2 rfl rfl ?_
      refine J.first 1 rfl ?_
      refine J.done_ret (res1 rfl rfl) ?_
      exact ⟨rfl, rfl⟩
  · (try refine wk ?_); (repeat (intro b; (try refine wk ?_)))
    obtain ⟨bh, rfl⟩ : ∃ q, q = b := ⟨b, rfl⟩
    refine J.op rfl ?_; refine J.isBuild ?_; refine J.give (Gives.build (vs := [(0, .string headMark)]) (cells := #[.string headMark]) rfl rfl (by kernel_rfl)) rfl rfl ?_
    (try refine wk ?_); (repeat (intro b; (try refine wk ?_)))
    (refine J.op rfl ?_; refine J.isCallV ?_; refine J.callV (HeadPut1 _ _ _ 1 ?_ ?_ ?_) rfl rfl rfl rfl rfl rfl ?_; (focus omega); (focus omega); (focus (simp only [padn_size, ents_size, ByteArray.size_append, le_size, headMark_size]; decide)); rintro _ _ rfl; refine J.put rfl ?_; refine J.nm ?_)
    (try refine wk ?_); (repeat (intro b; (try refine wk ?_)))
    (refine J.op rfl ?_; refine J.isCallV ?_; refine J.callV (HeadPut1 _ _ _ 2 ?_ ?_ ?_) rfl rfl rfl rfl rfl rfl ?_; (focus omega); (focus omega); (focus (simp only [padn_size, ents_size, ByteArray.size_append, le_size, headMark_size]; decide)); rintro _ _ rfl; refine J.put rfl ?_; refine J.nm ?_)
    (try refine wk ?_); (repeat (intro b; (try refine wk ?_)))
    (refine J.op rfl ?_; refine J.isCallV ?_; refine J.callV (HeadPut1 _ _ _ 3 ?_ ?_ ?_) rfl rfl rfl rfl rfl rfl ?_; (focus omega); (focus omega); (focus (simp only [padn_size, ents_size, ByteArray.size_append, le_size, headMark_size]; decide)); rintro _ _ rfl; refine J.put rfl ?_; refine J.nm ?_)
    (try refine wk ?_); (repeat (intro b; (try refine wk ?_)))
    (refine J.op rfl ?_; refine J.isCallV ?_; refine J.callV (HeadPut1 _ _ _ 6 ?_ ?_ ?_) rfl rfl rfl rfl rfl rfl ?_; (focus omega); (focus omega); (focus (simp only [padn_size, ents_size, ByteArray.size_append, le_size, headMark_size]; decide)); rintro _ _ rfl; refine J.put rfl ?_; refine J.nm ?_)
    (try refine wk ?_); (repeat (intro b; (try refine wk ?_)))
    (refine J.op rfl ?_; refine J.isCallV ?_; refine J.callV (HeadPut1 _ _ _ 2 ?_ ?_ ?_) rfl rfl rfl rfl rfl rfl ?_; (focus omega); (focus omega); (focus (simp only [padn_size, ents_size, ByteArray.size_append, le_size, headMark_size]; decide)); rintro _ _ rfl; refine J.put rfl ?_; refine J.nm ?_)
    (try refine wk ?_); (repeat (intro b; (try refine wk ?_)))
    (refine J.op rfl ?_; refine J.isCallV ?_; refine J.callV (HeadPut1 _ _ _ 6 ?_ ?_ ?_) rfl rfl rfl rfl rfl rfl ?_; (focus omega); (focus omega); (focus (simp only [padn_size, ents_size, ByteArray.size_append, le_size, headMark_size]; decide)); rintro _ _ rfl; refine J.put rfl ?_; refine J.nm ?_)
    (try refine wk ?_); (repeat (intro b; (try refine wk ?_)))
    (refine J.op rfl ?_; refine J.isCallV ?_; refine J.callV (HeadPut1 _ _ _ 6 ?_ ?_ ?_) rfl rfl rfl rfl rfl rfl ?_; (focus omega); (focus omega); (focus (simp only [padn_size, ents_size, ByteArray.size_append, le_size, headMark_size]; decide)); rintro _ _ rfl; refine J.put rfl ?_; refine J.nm ?_)
    (try refine wk ?_); (repeat (intro b; (try refine wk ?_)))
    (refine J.op rfl ?_; refine J.isCallV ?_; refine J.callV (HeadPut1 _ _ _ 6 ?_ ?_ ?_) rfl rfl rfl rfl rfl rfl ?_; (focus omega); (focus omega); (focus (simp only [padn_size, ents_size, ByteArray.size_append, le_size, headMark_size]; decide)); rintro _ _ rfl; refine J.put rfl ?_; refine J.nm ?_)
    (try refine wk ?_); (repeat (intro b; (try refine wk ?_)))
    have hn1 : (0 : Int) ≤ n ∧ (n : Int) ≤ 9223372036854775807 := by omega
    (refine J.op rfl ?_; refine J.isCallV ?_; refine J.callV (HeadPut1 _ _ _ 1 ?_ ?_ ?_) rfl rfl rfl rfl rfl rfl ?_; (focus omega); (focus omega); (focus (simp only [padn_size, ents_size, ByteArray.size_append, le_size, headMark_size]; decide)); rintro _ _ rfl; refine J.put rfl ?_; refine J.nm ?_)
    (try refine wk ?_); (repeat (intro b; (try refine wk ?_)))
    obtain ⟨bw, rfl⟩ : ∃ q, q = b := ⟨b, rfl⟩
    refine J.pick [3, 4, 49, 50, 51] rfl ?_
    refine J.loop (α := Nat) (fun k => [(3, ptr bw 0), (4, .func (.func 224) #[ptr bw 0] #[]), (49, slc bl 0 n cap), (50, i64 n), (51, i64 k)]) (fun k => [[(bw, .cells [.string (ents (headBase h n) (es.take k))] 294 (0, 0))], [(bh, .cells (h.cells (slc bl 0 n cap)) 95 (0, 0))], [(bl, .cells (ecells es ++ rest) 131 (0, 0))]]) (fun k => k ≤ n) (fun k => n - k) 0 (Nat.zero_le _) (fun _ _ h => h) rfl (fun k hk => ?_)
    by_cases hkn : k < n
    · have hks : (k : Int) < n := by omega
      have hke : k < es.length := by omega
      have hok := he _ (List.getElem_mem hke)
      have hnk : (0 + (k : Int).toNat * 3) = k * 3 := by simp
      have hl0 : Nat.ble (0 + (k : Int).toNat * 3 + 3) (ecells es ++ rest).length = true := by
        rw [hnk, g2]; simp only [Nat.ble_eq]
        have : (k + 1) * 3 ≤ cap * 3 := Nat.mul_le_mul_right _ (by omega)
        omega
      have hr0 : ((ecells es ++ rest).drop (0 + (k : Int).toNat * 3)).take 3 = es[k].cells := by
        rw [hnk]; exact flat_take (f := Ent.cells) es k _ rest (fun _ _ => rfl) (List.getElem?_eq_getElem hke)
      have hsn : ents (headBase h n) (es.take (k + 1)) = ents (headBase h n) (es.take k) ++ le es[k].kind 1 ++ le es[k].node 1 ++ le es[k].part 2 := by
        rw [List.take_add_one, List.getElem?_eq_getElem hke, ents, List.foldl_append]; rfl
      have hkl : (es.take k).length = k := by rw [List.length_take]; omega
      obtain ⟨⟨q1, q2⟩, ⟨q3, q4⟩, ⟨q5, q6⟩, _⟩ := hok
      have q7 : es[k].part ≤ 587 := by
        refine Int.le_trans q6 ?_
        split
        · decide
        · split
          · decide
          · split <;> decide
      generalize es[k] = q at *
      (try refine wk ?_); (repeat (intro b; (try refine wk ?_)))
      refine J.op rfl ?_; refine J.isLoad ?_; refine J.give (Gives.loadA 2 rfl rfl rfl hl0 hr0) rfl rfl ?_
      (try refine wk ?_); (repeat (intro b; (try refine wk ?_)))
      refine J.front 1 rfl rfl ?_
      (refine J.op rfl ?_; refine J.isCallV ?_; refine J.callV (HeadPut1 _ _ _ 1 ?_ ?_ ?_) rfl rfl rfl rfl rfl rfl ?_; (focus omega); (focus omega); (focus (simp only [padn_size, ents_size, ByteArray.size_append, le_size, headMark_size]; rw [headBase_size, hkl]; omega)); rintro _ _ rfl; refine J.put rfl ?_; refine J.nm ?_)
      (try refine wk ?_); (repeat (intro b; (try refine wk ?_)))
      (refine J.op rfl ?_; refine J.isCallV ?_; refine J.callV (HeadPut1 _ _ _ 1 ?_ ?_ ?_) rfl rfl rfl rfl rfl rfl ?_; (focus omega); (focus omega); (focus (simp only [padn_size, ents_size, ByteArray.size_append, le_size, headMark_size]; rw [headBase_size, hkl]; omega)); rintro _ _ rfl; refine J.put rfl ?_; refine J.nm ?_)
      (try refine wk ?_); (repeat (intro b; (try refine wk ?_)))
      (refine J.op rfl ?_; refine J.isCallV ?_; refine J.callV (HeadPut1 _ _ _ 2 ?_ ?_ ?_) rfl rfl rfl rfl rfl rfl ?_; (focus omega); (focus omega); (focus (simp only [padn_size, ents_size, ByteArray.size_append, le_size, headMark_size]; rw [headBase_size, hkl]; omega)); rintro _ _ rfl; refine J.put rfl ?_; refine J.nm ?_)
      (try refine wk ?_); (repeat (intro b; (try refine wk ?_)))
      refine J.pick [3, 4, 49, 50, 51] rfl ?_
      refine J.drop 1 ?_
      refine J.norm (H' := [[(bw, .cells [.string (ents (headBase h n) (es.take (k + 1)))] 294 (0, 0))], [(bh, .cells (h.cells (slc bl 0 n cap)) 95 (0, 0))], [(bl, .cells (ecells es ++ rest) 131 (0, 0))]]) (by rw [hsn]; rfl) ?_
      exact J.round (k + 1) hkn (by omega) (fun _ _ h => h) rfl
    · (try refine wk ?_); (repeat (intro b; (try refine wk ?_)))
      obtain rfl : n = k := by omega
      have htk : es.take n = es := List.take_of_length_le (by omega)
      refine J.norm (H' := [[(bw, .cells [.string (ents (headBase h es.length) es)] 294 (0, 0))], [(bh, .cells (h.cells (slc bl 0 n cap)) 95 (0, 0))], [(bl, .cells (ecells es ++ rest) 131 (0, 0))]]) (by rw [htk, hnl]) ?_
      refine J.pick [3, 4] rfl ?_
      refine J.loop (α := Nat) (fun k => [(3, ptr bw 0), (4, .func (.func 224) #[ptr bw 0] #[])]) (fun k => [[(bw, .cells [.string (padn (ents (headBase h es.length) es) k)] 294 (0, 0))], [(bh, .cells (h.cells (slc bl 0 n cap)) 95 (0, 0))], [(bl, .cells (ecells es ++ rest) 131 (0, 0))]]) (fun k => k ≤ 252 - (37 + 4 * es.length)) (fun k => 252 - (37 + 4 * es.length) - k) 0 (Nat.zero_le _) (fun _ _ h => h) rfl (fun k hk => ?_)
      have hsz : (padn (ents (headBase h es.length) es) k).size = 37 + 4 * es.length + k := by rw [padn_size, ents_size, headBase_size]
      by_cases hk4 : k < 252 - (37 + 4 * es.length)
      · have hks : ((padn (ents (headBase h es.length) es) k).size : Int) < 252 := by omega
        (try refine wk ?_); (repeat (intro b; (try refine wk ?_)))
        (refine J.op rfl ?_; refine J.isCallV ?_; refine J.callV (HeadPut1 _ _ _ 1 ?_ ?_ ?_) rfl rfl rfl rfl rfl rfl ?_; (focus omega); (focus omega); (focus (simp only [padn_size, ents_size, ByteArray.size_append, le_size, headMark_size]; rw [headBase_size]; omega)); rintro _ _ rfl; refine J.put rfl ?_; refine J.nm ?_)
        refine J.nil ?_
        (try refine wk ?_); (repeat (intro b; (try refine wk ?_)))
        refine J.pick [3, 4] rfl ?_
        exact J.round (k + 1) hk4 (by omega) (fun _ _ h => h) rfl
      · have hks : ¬ ((padn (ents (headBase h es.length) es) k).size : Int) < 252 := by omega
        (try refine wk ?_); (repeat (intro b; (try refine wk ?_)))
        obtain rfl : k = 252 - (37 + 4 * es.length) := by omega
        refine J.front 2 rfl rfl ?_
        refine J.first 1 rfl ?_
        refine J.done_ret (res1 rfl rfl) ?_
        exact ⟨rfl, rfl⟩
end Go.Proofs.YF
