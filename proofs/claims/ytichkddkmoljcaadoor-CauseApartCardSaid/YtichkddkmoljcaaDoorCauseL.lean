/- The rows' condition on the three tables gives what the walks ask; the program's own start meets it. -/
import Derived.Test.YtichkddkmoljcaaDoorRows
import Derived.Test.YtichkddkmoljcaaDoorCause
import Derived.ProofKit
import Derived.LaidMore
import Derived.OpenShut
import Derived.Lib.LaidTab
import Derived.Stop.Joined
import Derived.LaidOnce
set_option linter.unusedVariables false
set_option linter.unusedSimpArgs false
namespace Go.Proofs.YtichkddkmoljcaaDoor
open Go.ChangeShapes Go.WideShapes Go.ChangeAt Go.WideElems Go.RowKit

abbrev laidAll : List (String × DataW Unit) := [("atlas/cause.causes", Rows.laid_atlas_cause_causes), ("atlas/cause.sorts", Rows.laid_atlas_cause_sorts), ("atlas/cause.kinds", Rows.laid_atlas_cause_kinds)]
theorem own : ownKnob Tryd.prog.godebug = none := by kernel_rfl
theorem gC : Tryd.prog.globalNamed "atlas/cause.causes" = some 0 := by kernel_rfl
theorem gS : Tryd.prog.globalNamed "atlas/cause.sorts" = some 1 := by kernel_rfl
theorem gK : Tryd.prog.globalNamed "atlas/cause.kinds" = some 2 := by kernel_rfl
theorem tC : (Tryd.prog.globals[0]?).map (·.type) = some 39 := by kernel_rfl
theorem tS : (Tryd.prog.globals[1]?).map (·.type) = some 40 := by kernel_rfl
theorem tK : (Tryd.prog.globals[2]?).map (·.type) = some 40 := by kernel_rfl
theorem cI : Tryd.prog.cellsOf 3 = 1 := by kernel_rfl
theorem cStr : Tryd.prog.cellsOf 9 = 1 := by kernel_rfl
theorem c3 : Tryd.prog.cellsOf 38 = 3 := by kernel_rfl
theorem c9 : Tryd.prog.cellsOf 39 = 9 := by kernel_rfl
theorem cS3 : Tryd.prog.cellsOf 40 = 3 := by kernel_rfl

theorem door_met (os : Os) (args : Array Value) : laidMetH Tryd.prog laidAll ((World.doorLaid Tryd.prog 27 os).forCall (fun _ _ => 0) ⟨#[], args, []⟩).memory :=
  laidMetH_of_parts3 (fuel := 8) (laidMet_of_run' 8 (by kernel_rfl) (by kernel_rfl)) (by kernel_rfl) (by kernel_rfl)

/-- A block of a variable, known whole. -/
theorem block_of_var {P : Program} {W : World} {n : String} {g : Nat} {cs : Array Value} (hg : P.globalNamed n = some g) (hv : W.var? P n = some cs) : ∃ t fr, W.heap[g]? = some (.cells cs t fr) := by
  simp only [World.var?, hg, Option.bind_some] at hv
  split at hv
  · rename_i c t fr hh
    obtain rfl := Option.some.inj hv
    exact ⟨_, _, hh⟩
  · cases hv
theorem strings3 {H : Type} {enc : TypeId × Value → H} {W : World} {base : Nat} {sp : Nat → Bool} {held : Bool} {fuel : Nat} {cs : List Value} {a b c : List UInt8} {p : List MemPlace}
    (h : DataW.trod enc Tryd.prog W base sp held fuel 40 cs = some (.agg [.lit (.string a), .lit (.string b), .lit (.string c)], p)) : cs = [.string ⟨a.toArray⟩, .string ⟨b.toArray⟩, .string ⟨c.toArray⟩] := by
  obtain ⟨xs, m, rfl, hx, hlen, hn, hel⟩ := DataW.trod_array Tryd.underlying40 h
  rw [cS3] at hlen
  simp only [Prod.mk.injEq, DataW.agg.injEq] at hx
  match xs, hn, hx, hel with
  | [x0, x1, x2], _, hx, hel =>
    match cs, hlen, hel with
    | [v0, v1, v2], _, hel =>
      have h0 := hel 0 (by decide)
      have h1 := hel 1 (by decide)
      have h2 := hel 2 (by decide)
      rw [cStr] at h0 h1 h2
      obtain ⟨s0, e0, f0, _⟩ := DataW.trod_string Tryd.underlying9 (show DataW.trod _ _ _ _ _ _ _ _ [v0] = some x0 from h0)
      obtain ⟨s1, e1, f1, _⟩ := DataW.trod_string Tryd.underlying9 (show DataW.trod _ _ _ _ _ _ _ _ [v1] = some x1 from h1)
      obtain ⟨s2, e2, f2, _⟩ := DataW.trod_string Tryd.underlying9 (show DataW.trod _ _ _ _ _ _ _ _ [v2] = some x2 from h2)
      subst f0 f1 f2
      simp only [List.map_cons, List.map_nil, List.cons.injEq, DataW.lit.injEq, Lit.string.injEq, and_true] at hx e0 e1 e2
      obtain ⟨⟨r0, r1, r2⟩, _⟩ := hx
      rw [e0, e1, e2, r0, r1, r2]
theorem causes9 {H : Type} {enc : TypeId × Value → H} {W : World} {base : Nat} {sp : Nat → Bool} {held : Bool} {fuel : Nat} {cs : List Value} {p : List MemPlace}
    (h : DataW.trod enc Tryd.prog W base sp held fuel 39 cs = some (Rows.laid_atlas_cause_causes, p)) : cs = cells0.toList := by
  obtain ⟨xs, m, rfl, hx, hlen, hn, hel⟩ := DataW.trod_array Tryd.underlying39 h
  rw [c9] at hlen
  simp only [Rows.laid_atlas_cause_causes, Prod.mk.injEq, DataW.agg.injEq] at hx
  match xs, hn, hx, hel with
  | [(y0, p0), (y1, p1), (y2, p2)], _, hx, hel =>
    match cs, hlen, hel with
    | [v0, v1, v2, v3, v4, v5, v6, v7, v8], _, hel =>
      have h0 := hel 0 (by decide)
      have h1 := hel 1 (by decide)
      have h2 := hel 2 (by decide)
      rw [c3] at h0 h1 h2
      simp only [List.map_cons, List.map_nil, List.cons.injEq, and_true] at hx
      obtain ⟨⟨rfl, rfl, rfl⟩, _⟩ := hx
      have q0 := Lib.cells_of_tab (zs := [0, 4, 6]) Tryd.underlying38 Tryd.underlying3 cI c3 (show DataW.trod _ _ _ _ _ _ _ _ [v0, v1, v2] = some (Lib.tabData .i64 [0, 4, 6], p0) from h0)
      have q1 := Lib.cells_of_tab (zs := [1, 5, 7]) Tryd.underlying38 Tryd.underlying3 cI c3 (show DataW.trod _ _ _ _ _ _ _ _ [v3, v4, v5] = some (Lib.tabData .i64 [1, 5, 7], p1) from h1)
      have q2 := Lib.cells_of_tab (zs := [12, 13, 15]) Tryd.underlying38 Tryd.underlying3 cI c3 (show DataW.trod _ _ _ _ _ _ _ _ [v6, v7, v8] = some (Lib.tabData .i64 [12, 13, 15], p2) from h2)
      simp only [List.map_cons, List.map_nil, List.cons.injEq, and_true] at q0 q1 q2
      obtain ⟨rfl, rfl, rfl⟩ := q0
      obtain ⟨rfl, rfl, rfl⟩ := q1
      obtain ⟨rfl, rfl, rfl⟩ := q2
      rfl

/-- What the condition gives the walks. -/
theorem of_laid {W : World} (h : laidMetH Tryd.prog laidAll W) : Ld W := by
  rw [MakeChecks.laidMetH_plain _ _ _ (by kernel_rfl)] at h
  obtain ⟨ps, ⟨g0, t0, cs0, f0, p0, q0, hg0, ht0, hv0, hd0, ⟨g1, t1, cs1, f1, p1, q1, hg1, ht1, hv1, hd1, ⟨g2, t2, cs2, f2, p2, q2, hg2, ht2, hv2, hd2, _, _⟩, _⟩, _⟩, _, _⟩ := h
  obtain rfl := Option.some.inj (gC.symm.trans hg0)
  obtain rfl := Option.some.inj (gS.symm.trans hg1)
  obtain rfl := Option.some.inj (gK.symm.trans hg2)
  obtain rfl := Option.some.inj (tC.symm.trans ht0)
  obtain rfl := Option.some.inj (tS.symm.trans ht1)
  obtain rfl := Option.some.inj (tK.symm.trans ht2)
  obtain ⟨l0⟩ := cs0
  obtain ⟨l1⟩ := cs1
  obtain ⟨l2⟩ := cs2
  have e0 := causes9 hd0
  have e1 := strings3 hd1
  have e2 := strings3 hd2
  simp only at e0 e1 e2
  subst e0 e1 e2
  exact ⟨block_of_var hg0 hv0, block_of_var hg1 hv1, block_of_var hg2 hv2⟩
end Go.Proofs.YtichkddkmoljcaaDoor
