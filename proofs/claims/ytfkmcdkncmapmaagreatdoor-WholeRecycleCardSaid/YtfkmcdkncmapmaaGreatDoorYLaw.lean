/- WholeRecycle holds: of whatever configuration, pages, address and kind it answers true, and each argument reads as it did; no condition beyond the row's own (the eight tables hold what their declarations lay, which the card ties to the program's text). -/
import Derived.Test.YtfkmcdkncmapmaaGreatDoorY02
import Derived.Test.YtfkmcdkncmapmaaGreatDoorY42
import Derived.Test.YtfkmcdkncmapmaaGreatDoorCards
import Derived.Test.YtfkmcdkncmapmaaGreatDoorTie
import Derived.SevenTiedAt
import Derived.Lib.SmallJoins
import Derived.Carry
set_option linter.unusedVariables false
set_option linter.unusedSimpArgs false
set_option maxRecDepth 100000
namespace Go.Proofs.YtfkmcdkncmapmaaGreatDoor
open Go.ChangeShapes Go.WideShapes Go.ChangeAt Go.WideElems Go.RowKit Go.Joins Go.Deep
namespace Lay
theorem nat_of {k : IntKind} {m : Nat} (hk : ∀ a : Int, (Lit.int k a).wf = true → 0 ≤ a ∧ a < m) (a : Int) (h : (Lit.int k a).wf = true) : ∃ n : Nat, a = (n : Int) ∧ n < m := by
 have := hk a h
 exact ⟨a.toNat, by omega, by omega⟩
theorem u64_wf (a : Int) (h : (Lit.int .u64 a).wf = true) : 0 ≤ a ∧ a < (18446744073709551616 : Nat) := by
 simp [Lit.wf, IntKind.min, IntKind.max, IntKind.signed, IntKind.bits] at h; omega
theorem u8_wf (a : Int) (h : (Lit.int .u8 a).wf = true) : 0 ≤ a ∧ a < (256 : Nat) := by
 simp [Lit.wf, IntKind.min, IntKind.max, IntKind.signed, IntKind.bits] at h; omega
theorem conf_of {H : Type} {enc : TypeId × Value → H} {W : World} {base b0 : Nat} {r : Reach} {sp : Nat → Bool} {held : Bool} {v : Value} {d : DataW H} {p : List MemPlace} (hv : Value.okWide Tryz.prog W r b0 23 v) (h : DataW.Trod enc Tryz.prog W base sp held 23 v d p) : ∃ c : D.Conf, v = D.Conf.enc c := by
 obtain ⟨v0, v1, v2, v3, y0, y1, y2, y3, n, rfl, _, _, h0, h1, h2, h3⟩ := open_agg4 Tryz.underlying23 kr kr hv h
 obtain ⟨a0, e0, _, _⟩ := DataW.trod_int Tryz.underlying3 h0
 obtain ⟨a1, e1, _, _⟩ := DataW.trod_int Tryz.underlying3 h1
 obtain ⟨a2, e2, _, _⟩ := DataW.trod_int Tryz.underlying3 h2
 obtain ⟨a3, e3, _, _⟩ := DataW.trod_int Tryz.underlying3 h3
 simp only [List.cons.injEq, and_true] at e0 e1 e2 e3
 subst e0 e1 e2 e3
 exact ⟨⟨a0, a1, a2, a3⟩, rfl⟩
theorem flat_nat1 (l : List Nat) : l.flatMap D.nat1 = l.map fun n : Nat => Value.int .u64 (n : Int) := by
 induction l with
 | nil => rfl
 | cons x l ih => rw [List.flatMap_cons, ih]; rfl
/-- A slice of numbers that came in reads as a row of numbers. -/
theorem pages_of {H : Type} {enc : TypeId × Value → H} {W : World} {base b0 : Nat} {r : Reach} {v : Value} {d : DataW H} {p : List MemPlace} (hv : Value.okWide Tryz.prog W r b0 72 v) (h : DataW.Trod enc Tryz.prog W base (fun _ => true) true 72 v d p) :
 ∃ (s : SX.Sl) (l : List Nat), v = .slice s.a s.n s.c ∧ (D.wsF s l).P W [] ∧ ∀ a ∈ l, a < 18446744073709551616 := by
 obtain ⟨a, len, cap, rfl⟩ := okWide_slice Tryz.underlying72 hv
 obtain ⟨fuel, hf⟩ := h
 rcases open_ints Tryz.underlying72 Tryz.underlying27 kr hf with ⟨hcs, _⟩ | ⟨x, l, c, zs, hcs, _, hl, hm, hz, _, hcell, hwz⟩
 · simp [Value.cells] at hcs
   obtain ⟨rfl, rfl, rfl⟩ := hcs
   exact ⟨⟨none, 0, 0⟩, [], rfl, .inl ⟨rfl, rfl⟩, fun a ha => by cases ha⟩
 · simp [Value.cells] at hcs
   obtain ⟨rfl, rfl, rfl⟩ := hcs
   have hz' : zs.length = cap := by simpa using hz
   obtain ⟨_, _, _, hs, row, cells, hsh, _⟩ : len ≤ cap ∧ (cap : Int) ≤ IntKind.i64.max ∧ W.has Tryz.prog r b0 x 27 cap := by
    simp only [Value.okWide, Tryz.underlying72, Cell.okWide, Cell.ok] at hv
    exact hv
   obtain ⟨b, off, spot⟩ := x
   simp only at hs
   subst hs
   obtain ⟨cs, E, fr, hb⟩ : ∃ cs E fr, W.heap[b]? = some (.cells cs E fr) := by
    simp only [World.shape?] at hsh
    split at hsh
    · exact ⟨_, _, _, by assumption⟩
    · cases hsh
   have hpos : ∀ n ∈ zs, 0 ≤ n ∧ n < (18446744073709551616 : Nat) := fun n hn => u64_wf n (hwz n hn)
   refine ⟨⟨some ⟨b, off, none⟩, len, cap⟩, (zs.take len).map Int.toNat, rfl, .inr ⟨b, off, cs, E, fr, rfl, hb, List.not_mem_nil, ?_, hl, ?_⟩, ?_⟩
   · rw [flat_nat1, List.length_map, List.length_map, List.length_take]; show _ = len * 1; omega
   · intro i hi
     have hi' : i < len := by rw [flat_nat1, List.length_map, List.length_map, List.length_take] at hi; omega
     have hc := hcell i ko
     have e1 : ((zs.take len).map Int.toNat).flatMap D.nat1 = (zs.take len).map (Value.int .u64) := by
      rw [flat_nat1, List.map_map]
      refine List.map_congr_left fun n hn => ?_
      have := hpos n (List.mem_of_mem_take hn)
      show Value.int .u64 ((n.toNat : Nat) : Int) = Value.int .u64 n
      rw [Int.toNat_of_nonneg this.1]
     simp only [e1, List.getElem_map, List.getElem_take]
     have ha : ({ block := b, off := off } : Addr).add i = ⟨b, off + i, none⟩ := by
      unfold Addr.add
      split
      · rename_i h; subst h; rfl
      · rfl
     rw [ha] at hc
     simp only [World.cell?, hb] at hc
     have hc' : cs[off + i]? = some (Value.int .u64 (zs.getD i 0)) := by simpa using hc
     rw [hc', List.getD_eq_getElem?_getD, List.getElem?_eq_getElem ko]
     rfl
   · intro a ha
     obtain ⟨n, hn, rfl⟩ := List.mem_map.1 ha
     have := hpos n (List.mem_of_mem_take hn)
     omega
set_option maxRecDepth 100000 in
theorem lifted (os : Os) (started : os.Started) (H : Type) (enc : TypeId × Value → H) :
 ReturnsInHanded {} Tryz.checked os 4 .any (fun w args => (Rows.wholeRecycleSpec.pre enc Tryz.prog Tryz.f4 [] false w args ∧ laidMetH Tryz.prog laidAll w) ∧ sizedMet enc Tryz.prog Tryz.f4 (OpenSpec.ofChange Rows.wholeRecycleSpec) false w args)
  (Rows.wholeRecycleSpec.post enc Tryz.prog Tryz.f4 false true false false) := by
 refine returnsInHanded_of_change_and (C := Tryz.checked) (X := fun w _ => laidMetH Tryz.prog laidAll w) (fun _ _ _ hh h => h.of_heap hh) own started kr Tryz.func4
  (ChangeSpec.witness_shaped (enc := enc) (C := Tryz.checked) (os := os) (X := fun w _ => laidMetH Tryz.prog laidAll w) false (World.doorLaid Tryz.prog 56 os) #[.agg #[.int .i64 0, .int .i64 0, .int .i64 0, .int .i64 0], .slice none 0 0, .int .u64 0, .int .u8 0] 8 rfl (World.shaped_of_RefB kr kr) kr kr kr (door_met os _)) ?_
 intro W base args ds gs before hval0 hW _ _ hL _
 have hval : ∀ (j : Nat) t v, Tryz.f4.params[j]? = some t → args[j]? = some v → Value.okWide Tryz.prog W .any base t v := hval0
 have hW' := hW
 obtain ⟨p, q, hA0, hV, rfl, hfz, hnd⟩ := hW
 have hA : DataW.TrodAll enc Tryz.prog W 0 (fun _ => true) true Tryz.f4.params.toList args.toList ds p := hA0
 rw [Tryz.params4] at hA hval
 obtain ⟨v0, v1, v2, v3, d0, d1, d2, d3, p0, p1, p2, p3, rfl, rfl, rfl, h0, h1, h2, h3⟩ := trodAll_four hA
 obtain ⟨rfl, rfl⟩ := trodVars_none hV
 have lt0 : ∀ x ∈ p0, x.block < W.heap.size := by obtain ⟨m, hm⟩ := h0; exact DataW.trod_lt m _ _ _ hm
 have lt1 : ∀ x ∈ p1, x.block < W.heap.size := by obtain ⟨m, hm⟩ := h1; exact DataW.trod_lt m _ _ _ hm
 obtain ⟨c, rfl⟩ := conf_of (hval 0 23 v0 rfl rfl) h0
 obtain ⟨s, l, rfl, hs, hl⟩ := pages_of (hval 1 72 v1 rfl rfl) h1
 obtain ⟨a2, rfl, rfl, rfl, w2⟩ := open_int Tryz.underlying27 (hval 2 27 v2 rfl rfl) h2
 obtain ⟨a3, rfl, rfl, rfl, w3⟩ := open_int Tryz.underlying5 (hval 3 5 v3 rfl rfl) h3
 clear hA0 hval0
 have hLd := of_laid hL
 obtain ⟨x, rfl, hx⟩ := nat_of u64_wf a2 w2
 obtain ⟨n, rfl, hn⟩ := nat_of u8_wf a3 w3
 refine Calls.mono (law_calls c l x n (no := []) s W (fun b hb => by cases hb) hs hLd hl hx hn) fun e W' ⟨v, he, bel, hv⟩ => ?_
 subst he hv
 exact ⟨_, rfl, _, _, _, [], _, [], hW', trodAll_mk1 (shut_bool Tryz.underlying4 _),
  (trodAll_cons_mk (Below.trod laidOut kr (of_decide_eq_true kr) h0 bel lt0) (trodAll_cons_mk (Below.trod laidOut kr (of_decide_eq_true kr) h1 bel lt1) (trodAll_cons_mk (shut_int Tryz.underlying27 w2) (trodAll_cons_mk (shut_int Tryz.underlying5 w3) trodAll_mk0)))), rfl, bel.frame _, fun h => by cases h⟩
theorem over : Rows.WholeRecycleSaid :=
 OpenClaim.holds_of_wide 4 Tryz.f4 rfl rfl rfl rfl rfl rfl rfl ⟨rfl, rfl, rfl, rfl, rfl⟩ rfl rfl rfl rfl rfl kr Tryz.func4 kr
  (of_decide_eq_true kr) (by unfold Func.isWrapper; first | (rw [if_pos (by decide +kernel)]; kernel_rfl) | (rw [if_neg (by decide +kernel)]; exact ⟨rfl, rfl⟩))
  (fun os started H enc _ => lifted os started H enc)
theorem card : Rows.WholeRecycleCardSaid :=
 Claim7.holds_tied_plain_at .later [] [.data, .funcs, .data, .data, .data, .funcs, .data, .data] true (true, "2da5a3d28903d8e622d5efabbd36640f1294dad2c764f57e4324def8aea936b2") false
  over (fun _ h => by cases h) kr (fun _ h => by cases h) wholeRecycle_row_tie rfl ⟨rfl, rfl⟩ kr rfl
  (fun f fn hf hfn => by
   obtain rfl : f = 4 := Option.some.inj ((show Tryz.prog.funcNamed "atlas/atlastop.WholeRecycle" = some 4 by kernel_rfl).symm.trans hf) |>.symm
   obtain rfl : fn = Tryz.f4 := (Option.some.inj (Tryz.func4.symm.trans hfn)).symm
   exact ⟨by kernel_rfl, fun j t ht => by
    rw [Tryz.params4] at ht
    have hm : t ∈ [23, 72, 27, 5] := by simpa using Array.mem_of_getElem? ht
    have hall : (([23, 72, 27, 5] : List Nat).all fun u => !Tryz.prog.wantsStandIn u) = true := by kernel_rfl
    exact (show Tryz.prog.wantsStandIn t = false by simpa using List.all_eq_true.1 hall t hm)⟩)
  kr
end Lay
theorem wholeRecycle_holds : Rows.WholeRecycleCardSaid := Lay.card
#print axioms wholeRecycle_holds
end Go.Proofs.YtfkmcdkncmapmaaGreatDoor
