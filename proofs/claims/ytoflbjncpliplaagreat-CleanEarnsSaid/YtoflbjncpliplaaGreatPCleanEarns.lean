/- CleanEarns: for every number and every slice of numbers the law's function returns true. No condition. -/
import Derived.Test.YtoflbjncpliplaaGreatRows
import Derived.WalkKit
import Derived.ProofKit
import Derived.OpenShut
import Derived.Test.YtoflbjncpliplaaGreatML
namespace Go.Proofs.YtoflbjncpliplaaGreat.cleanEarns
open Go.ChangeShapes Go.WideShapes Go.ChangeAt Go.RowKit
set_option linter.unusedVariables false

theorem own : ownKnob Tryz.prog.godebug = none := by kernel_rfl
theorem lawH {f : FuncId} {args : Array Value} {H : YE.Hs} (h : YE.Sp Tryz.prog f args H (fun v H' => v = .bool true ∧ H' = H)) (w : World) (hw : YE.Has w H.flatten) : Calls Tryz.prog f args w fun e w' => e = .returned (.bool true) ∧ Below w.heap.size w w' :=
  (h w hw).mono (fun e w' ⟨v, H', he, hp, hs⟩ => by
    obtain ⟨rfl, rfl⟩ := hp
    refine ⟨he, ⟨hs.keep.os, hs.keep.tape, hs.keep.output, hs.keep.size, fun b hb => ?_⟩⟩
    by_cases hk : b ∈ YE.keys H'.flatten
    · obtain ⟨x, hx, rfl⟩ := List.mem_map.1 hk
      rw [hs.has.1 x.1 x.2 hx, hw.1 x.1 x.2 hx]
    · exact hs.keep.block b hb hk)
theorem cells3 : Tryz.prog.cellsOf 3 = 1 := by kernel_rfl
theorem block_of {w : World} {b o : Nat} {v : Value} (h : w.cell? ⟨b, o, none⟩ = some v) : ∃ l e z, w.heap[b]? = some (.cells l e z) ∧ l[o]? = some v := by
  unfold World.cell? at h
  split at h
  · rename_i l e z hb
    exact ⟨l, e, z, hb, by simpa using h⟩
  · cases h
theorem walk (a0 : Int) (w0 : (Lit.int .i64 a0).wf = true) (tv : Value) (ticks : List Int) (Ht : YE.Heap) (ht : YF.Seen tv ticks Ht) (w : World) (hw : YE.Has w Ht) :
    Calls Tryz.prog 8 #[.int .i64 a0, tv] w fun e w' => e = .returned (.bool true) ∧ Below w.heap.size w w' :=
  lawH (YF.CleanEarns a0 (YF.wf64 w0) tv ticks Ht ht) w (by simpa using hw)

set_option maxRecDepth 100000 in
theorem lifted (os : Os) (started : os.Started) (H : Type) (enc : TypeId × Value → H) :
    ReturnsInHanded {} Tryz.checked os 8 .any (Rows.cleanEarnsSpec.pre6 enc Tryz.prog Tryz.f8 Rows.cleanEarnsRow.domain false) (Rows.cleanEarnsSpec.post enc Tryz.prog Tryz.f8 false true false false) := by
  refine returnsInHanded_of_change (C := Tryz.checked) own started (by kernel_rfl) Tryz.func8
    (ChangeSpec.witness6 (enc := enc) (C := Tryz.checked) false ⟨#[], #[.int .i64 0, .slice none 0 0], []⟩ 8 (by kernel_rfl) (by kernel_rfl) (by kernel_rfl) (by kernel_rfl)) ?_
  intro W base args ds gs before hval0 hW hcnd _
  have hval : ∀ (j : Nat) t v, Tryz.f8.params[j]? = some t → args[j]? = some v → Value.okWide Tryz.prog W .any base t v := hval0
  have hW' := hW
  obtain ⟨p, q, hA0, hV, rfl, hfz, hnd⟩ := hW
  have hA : DataW.TrodAll enc Tryz.prog W 0 (fun _ => true) true Tryz.f8.params.toList args.toList ds p := hA0
  rw [Tryz.params8] at hA hval
  obtain ⟨v0, vs0, d0, ds0, p0, q0, hargs, rfl, rfl, h0, r0⟩ := trodAll_cons hA
  obtain ⟨v1, vs1, d1, ds1, p1, q1, rfl, rfl, rfl, h1, r1⟩ := trodAll_cons r0
  obtain ⟨rfl, rfl, rfl⟩ := trodAll_nil r1
  obtain rfl : args = #[v0, v1] := by cases args; simp_all
  obtain ⟨rfl, rfl⟩ := trodVars_none hV
  obtain ⟨a0, rfl, rfl, rfl, w0⟩ := open_int Tryz.underlying3 (hval 0 3 v0 rfl rfl) h0
  obtain ⟨a, len, cap, rfl⟩ := okWide_slice Tryz.underlying25 (hval 1 25 v1 rfl rfl)
  have h1k := h1
  obtain ⟨fuel, hf⟩ := h1
  clear hA0 hval0
  simp only [List.append_nil, List.nil_append] at hW'
  have hlt : ∀ x ∈ p1, x.block < W.heap.size := fun x hx => by simpa using hW'.lt x hx
  have hseen : ∃ (ticks : List Int) (Ht : YE.Heap), YF.Seen (.slice a len cap) ticks Ht ∧ YE.Has W Ht := by
    rcases open_ints Tryz.underlying25 Tryz.underlying3 cells3 hf with ⟨hcs, hx⟩ | ⟨a, len', cap', zs, hcs, hl, hm, _, hz, hx, hcell, hws⟩
    · simp [Value.cells] at hcs
      obtain ⟨rfl, rfl, rfl⟩ := hcs
      exact ⟨[], [], .inl ⟨_, _, rfl, rfl, rfl⟩, ⟨fun _ _ h => (by cases h), (by simp [YE.keys])⟩⟩
    · simp [Value.cells] at hcs
      obtain ⟨rfl, rfl, rfl⟩ := hcs
      simp only [if_true] at hz
      by_cases hl0 : len = 0
      · subst hl0
        exact ⟨[], [], .inl ⟨_, _, rfl, rfl, rfl⟩, ⟨fun _ _ h => (by cases h), (by simp [YE.keys])⟩⟩
      · obtain ⟨b, off, spot⟩ := a
        have hspot : spot = none := by simpa [Addr.add] using World.cell?_spot (hcell 0 (by omega))
        subst hspot
        have hc : ∀ i, i < zs.length → W.cell? ⟨b, off + i, none⟩ = some (.int .i64 (zs.getD i 0)) := fun i hi => by
          have := hcell i hi
          by_cases h0 : i = 0
          · subst h0; simpa [Addr.add] using this
          · simpa [Addr.add, h0] using this
        obtain ⟨l, e, z, hb, _⟩ := block_of (hc 0 (by omega))
        have hl2 : ∀ i, i < zs.length → l.toList[off + i]? = some (.int .i64 (zs.getD i 0)) := fun i hi => by
          obtain ⟨l', e', z', hb', hv⟩ := block_of (hc i hi)
          rw [hb] at hb'
          cases hb'
          simpa using hv
        have hlen : off + len ≤ l.toList.length := by
          have := hl2 (len - 1) (by omega)
          have := (List.getElem?_eq_some_iff.1 this).1
          omega
        have hzl : (zs.take len).length = len := by simp; omega
        refine ⟨zs.take len, [(b, .cells l.toList e z)], .inr ⟨b, off, cap, l.toList, e, z, by rw [hzl], rfl, ?_, by rw [hzl]; exact hlen⟩, ⟨fun b' o h => ?_, by simp [YE.keys]⟩⟩
        · rw [hzl]
          apply List.ext_getElem?
          intro i
          by_cases hi : i < len
          · rw [List.getElem?_take, if_pos hi, List.getElem?_drop, hl2 i (by omega), List.getElem?_map, List.getElem?_take, if_pos hi, List.getElem?_eq_getElem (by omega)]
            simp [List.getD_eq_getElem?_getD, List.getElem?_eq_getElem (show i < zs.length by omega)]
          · rw [List.getElem?_eq_none (by simp; omega), List.getElem?_eq_none (by simp; omega)]
        · simp only [List.mem_singleton, Prod.mk.injEq] at h
          obtain ⟨rfl, rfl⟩ := h
          simpa [YE.HO.obj'] using hb
  obtain ⟨ticks, Ht, hs, hh⟩ := hseen
  refine (walk a0 w0 _ ticks Ht hs W hh).mono fun e W' ⟨he, hg⟩ => ?_
  subst he
  exact ⟨_, rfl, YF.post_of_below (pa := p1) (pv := []) hW' (fun _ _ _ => (trodAll_cons_mk (shut_bool Tryz.underlying4 _) trodAll_mk0))
    (fun sp hsp => by
      have h := trodAll_cons_mk (shut_int Tryz.underlying3 w0) (trodAll_cons_mk (WideElems.Trod_stays (P := Tryz.prog) YF.laid0 (by kernel_rfl) (of_decide_eq_true (by kernel_rfl)) h1k (fun x hx => hg.same (hlt x hx)) (fun x hx => hsp x hx)) trodAll_mk0)
      simp only [List.nil_append, List.append_nil] at h
      exact h)
    (fun _ _ => rfl) (by simp) hg (ok_one (by kernel_rfl) rfl (okWide_bool_mk Tryz.underlying4 _))⟩

theorem inPlace : (Rows.cleanEarnsRow.inPlace == Tryz.pinned.checked.prog.inPlace 8) = true := by kernel_rfl
theorem unfollowed : (Rows.cleanEarnsRow.unfollowed == Tryz.pinned.checked.prog.unfollowed 8) = true := by kernel_rfl
theorem recurses : (Rows.cleanEarnsRow.recurses == Tryz.pinned.checked.prog.recurses 8) = true := by kernel_rfl
theorem named : (Rows.cleanEarnsRow.named == Tryz.pinned.checked.prog.varsNamed 8) = true := by kernel_rfl
theorem closed : joinedFacts Tryz.pinned.checked.prog 8 Tryz.f8 Rows.cleanEarnsSpec Rows.cleanEarnsRow = true := by
  unfold joinedFacts
  repeat' (with_reducible apply YF.and_t)
  · kernel_rfl
  · exact YF.laid0
  · exact YF.rowed0
  · kernel_rfl
  · kernel_rfl
  · kernel_rfl
  · kernel_rfl
  · kernel_rfl
  · kernel_rfl
  · exact inPlace
  · exact unfollowed
  · exact recurses
  · exact named
  · kernel_rfl
  · kernel_rfl
  · kernel_rfl
  · kernel_rfl
  · kernel_rfl
  · kernel_rfl
  · kernel_rfl
  · kernel_rfl
  · kernel_rfl
  · kernel_rfl
  · kernel_rfl
  · exact YF.heard0
  · exact YF.enter0
  · exact YF.lifts0
  · exact YF.make0
  · kernel_rfl
  · kernel_rfl
  · kernel_rfl
  · kernel_rfl

theorem over : Rows.cleanEarnsRow.holds Tryz.pinned (OpenSpec.ofChange Rows.cleanEarnsSpec) :=
  OpenClaim.holds_of_wide 8 Tryz.f8 rfl rfl rfl rfl rfl rfl rfl ⟨rfl, rfl, rfl, rfl, rfl⟩ rfl rfl rfl rfl rfl (by kernel_rfl) Tryz.func8 closed
    (of_decide_eq_true (by kernel_rfl)) (by unfold Func.isWrapper; first | (rw [if_pos (by decide +kernel)]; kernel_rfl) | (rw [if_neg (by decide +kernel)]; exact ⟨rfl, rfl⟩))
    (fun os started H enc _ => lifted os started H enc)

/-- The statement. -/
theorem proved : Rows.CleanEarnsSaid :=
  over
#print axioms proved
end Go.Proofs.YtoflbjncpliplaaGreat.cleanEarns
