/- PoolBack, the walk, over the contracts of what it calls. -/
import Derived.Test.YtojklokbdmelhaaDoorSPoolAllx3
import Derived.Test.YtojklokbdmelhaaDoorReg
import Derived.WalkSpells
set_option linter.unusedVariables false
set_option linter.unusedSimpArgs false
namespace Go.Proofs.YtojklokbdmelhaaDoor.SPoolBack
open Go.RowKit Go.Proofs.YtojklokbdmelhaaDoorW.PrintWords Go.Proofs.YtojklokbdmelhaaDoor.Bits Go.Proofs.YtojklokbdmelhaaDoor.SPoolAll

/-- What a call answers, and that it writes below nothing. -/
def Says (f : Nat) (xs : Array Value) (r : Value) : Prop := ∀ W, Ld W → Calls Tryd.prog f xs W fun e w' => e = .returned r ∧ Below W.heap.size W w'
def pl (b m f : Int) : Value := .agg #[.int .u64 b, .int .i64 m, .int .u64 f]
section
attribute [local go_sem high] eqPool
set_option maxRecDepth 100000 in
set_option maxHeartbeats 4000000 in
theorem walk_no (b m f u : Int) (w : World) (hl : Ld w) (hR : Says 10 #[.agg #[.int .u64 b, .int .i64 m, .int .u64 f]] (.bool false)) :
    Calls Tryd.prog 6 #[.agg #[.int .u64 b, .int .i64 m, .int .u64 f], .int .u64 u] w fun e w' => e = .returned (.bool true) ∧ Below w.heap.size w w' := by
  have HR := Lib.hid hR
  have HL := Lib.hid hl
  have hid0 := Lib.hid (Below.refl w.heap.size w)
  clear hR hl
  go_enter Tryd.func6, Tryd.ntmps6
  go_wp2_with fail
  refine (atlaslaw04_awake.calls true _ (HL.out.alloc _) rfl).mono ?_
  rintro e w1 ⟨rfl, hb⟩
  have hid1 := Lib.hid (below_then (below_alloc hid0.out _) (below_alloc hid0.out _).size hb)
  have P1 := Lib.hid ((Own3.new w (.int .u64 b) (.int .i64 m) (.int .u64 f) 24).below hb)
  clear hb hid0
  have Pq0 := P1.out.c0
  have Pq1 := P1.out.c1
  have Pq2 := P1.out.c2
  go_wp2_with fail
  clear Pq0 Pq1 Pq2
  refine (HR.out _ (HL.out.below hid1.out)).mono ?_
  rintro e w2 ⟨rfl, hb⟩
  have hid2 := Lib.hid (below_then hid1.out hid1.out.size hb)
  clear hb hid1
  go_wp2_with fail
  refine (atlaslaw04_awake.calls true _ (HL.out.below hid2.out) rfl).mono ?_
  rintro e w3 ⟨rfl, hb⟩
  have hid3 := Lib.hid (below_then hid2.out hid2.out.size hb)
  clear hb hid2
  go_wp2_with fail
  go_ret
  exact ⟨rfl, hid3.out⟩
-- THE WALKS
set_option maxRecDepth 100000 in
set_option maxHeartbeats 4000000 in
theorem walk_000 (b m f u : Int) (w : World) (hl : Ld w)
    (hR : Says 10 #[.agg #[.int .u64 b, .int .i64 m, .int .u64 f]] (.bool true))
    (hT : Says 11 #[.agg #[.int .u64 b, .int .i64 m, .int .u64 f]] (.tuple #[.agg #[.int .u64 b, .int .i64 m, .int .u64 f], .int .u64 0, .int .i64 8]))
    (hG : Says 13 #[.agg #[.int .u64 b, .int .i64 m, .int .u64 f], .int .u64 u] (.tuple #[.agg #[.int .u64 b, .int .i64 m, .int .u64 f], .int .i64 1]))
    (hI : Says 17 #[.agg #[.int .u64 b, .int .i64 m, .int .u64 f], .int .u64 u] (.bool false)) :
    Calls Tryd.prog 6 #[.agg #[.int .u64 b, .int .i64 m, .int .u64 f], .int .u64 u] w fun e w' => e = .returned (.bool true) ∧ Below w.heap.size w w' := by
  have HR := Lib.hid hR
  have HT := Lib.hid hT
  have HG := Lib.hid hG
  have HI := Lib.hid hI
  have HL := Lib.hid hl
  have hid0 := Lib.hid (Below.refl w.heap.size w)
  clear hl hR hT hG hI
  go_enter Tryd.func6, Tryd.ntmps6
  go_wp2_with fail
  refine (atlaslaw04_awake.calls true _ (HL.out.alloc _) rfl).mono ?_
  rintro e w1 ⟨rfl, hb⟩
  have hid1 := Lib.hid (below_then (below_alloc hid0.out _) (below_alloc hid0.out _).size hb)
  have P1 := Lib.hid ((Own3.new w (.int .u64 b) (.int .i64 m) (.int .u64 f) 24).below hb)
  clear hb hid0 
  have Pq0 := P1.out.c0
  have Pr0 := fun o => (P1.out.alloc o).c0
  have Pq1 := P1.out.c1
  have Pr1 := fun o => (P1.out.alloc o).c1
  have Pq2 := P1.out.c2
  have Pr2 := fun o => (P1.out.alloc o).c2
  go_wp2_with fail
  clear Pq0 Pr0 Pq1 Pr1 Pq2 Pr2
  refine (HR.out _ (HL.out.below hid1.out)).mono ?_
  rintro e w2 ⟨rfl, hb⟩
  have hid2 := Lib.hid (below_then hid1.out hid1.out.size hb)
  have P2 := Lib.hid (P1.out.below hb)
  clear hb hid1 P1
  have Pq0 := P2.out.c0
  have Pr0 := fun o => (P2.out.alloc o).c0
  have Pq1 := P2.out.c1
  have Pr1 := fun o => (P2.out.alloc o).c1
  have Pq2 := P2.out.c2
  have Pr2 := fun o => (P2.out.alloc o).c2
  go_wp2_with fail
  clear Pq0 Pr0 Pq1 Pr1 Pq2 Pr2
  refine (HT.out _ (HL.out.below hid2.out)).mono ?_
  rintro e w3 ⟨rfl, hb⟩
  have hid3 := Lib.hid (below_then hid2.out hid2.out.size hb)
  have P3 := Lib.hid (P2.out.below hb)
  clear hb hid2 P2
  have Pq0 := P3.out.c0
  have Pr0 := fun o => (P3.out.alloc o).c0
  have Pq1 := P3.out.c1
  have Pr1 := fun o => (P3.out.alloc o).c1
  have Pq2 := P3.out.c2
  have Pr2 := fun o => (P3.out.alloc o).c2
  go_wp2_with fail
  clear Pq0 Pr0 Pq1 Pr1 Pq2 Pr2
  refine (HG.out _ ((HL.out.below hid3.out).alloc _)).mono ?_
  rintro e w4 ⟨rfl, hb⟩
  have hid4 := Lib.hid (below_then (below_alloc hid3.out _) (below_alloc hid3.out _).size hb)
  have P4 := Lib.hid ((P3.out.alloc _).below hb)
  have A4 := Lib.hid ((Own3.new w3 (.int .u64 b) (.int .i64 m) (.int .u64 f) 24).below hb)
  clear hb hid3 P3
  have Pq0 := P4.out.c0
  have Pr0 := fun o => (P4.out.alloc o).c0
  have Pq1 := P4.out.c1
  have Pr1 := fun o => (P4.out.alloc o).c1
  have Pq2 := P4.out.c2
  have Pr2 := fun o => (P4.out.alloc o).c2
  have Aq0 := A4.out.c0
  have Ar0 := fun o => (A4.out.alloc o).c0
  have Aq1 := A4.out.c1
  have Ar1 := fun o => (A4.out.alloc o).c1
  have Aq2 := A4.out.c2
  have Ar2 := fun o => (A4.out.alloc o).c2
  go_wp2_with fail
  clear Pq0 Pr0 Pq1 Pr1 Pq2 Pr2 Aq0 Ar0 Aq1 Ar1 Aq2 Ar2
  refine (HI.out _ ((HL.out.below hid4.out).alloc _)).mono ?_
  rintro e w5 ⟨rfl, hb⟩
  have hid5 := Lib.hid (below_then (below_alloc hid4.out _) (below_alloc hid4.out _).size hb)
  have P5 := Lib.hid ((P4.out.alloc _).below hb)
  have A5 := Lib.hid ((A4.out.alloc _).below hb)
  have C5 := Lib.hid ((Own3.new w4 (.int .u64 b) (.int .i64 m) (.int .u64 f) 24).below hb)
  clear hb hid4 P4 A4
  have Pq0 := P5.out.c0
  have Pr0 := fun o => (P5.out.alloc o).c0
  have Pq1 := P5.out.c1
  have Pr1 := fun o => (P5.out.alloc o).c1
  have Pq2 := P5.out.c2
  have Pr2 := fun o => (P5.out.alloc o).c2
  have Aq0 := A5.out.c0
  have Ar0 := fun o => (A5.out.alloc o).c0
  have Aq1 := A5.out.c1
  have Ar1 := fun o => (A5.out.alloc o).c1
  have Aq2 := A5.out.c2
  have Ar2 := fun o => (A5.out.alloc o).c2
  have Cq0 := C5.out.c0
  have Cr0 := fun o => (C5.out.alloc o).c0
  have Cq1 := C5.out.c1
  have Cr1 := fun o => (C5.out.alloc o).c1
  have Cq2 := C5.out.c2
  have Cr2 := fun o => (C5.out.alloc o).c2
  go_wp2_with fail
  go_ret
  exact ⟨rfl, hid5.out⟩
set_option maxRecDepth 100000 in
set_option maxHeartbeats 4000000 in
theorem walk_010 (b m f u f2 y c f3 : Int) (w : World) (hl : Ld w)
    (hR : Says 10 #[.agg #[.int .u64 b, .int .i64 m, .int .u64 f]] (.bool true))
    (hT : Says 11 #[.agg #[.int .u64 b, .int .i64 m, .int .u64 f]] (.tuple #[.agg #[.int .u64 b, .int .i64 m, .int .u64 f], .int .u64 0, .int .i64 8]))
    (hG : Says 13 #[.agg #[.int .u64 b, .int .i64 m, .int .u64 f], .int .u64 u] (.tuple #[.agg #[.int .u64 b, .int .i64 m, .int .u64 f2], .int .i64 0]))
    (hD : Says 11 #[.agg #[.int .u64 b, .int .i64 m, .int .u64 f2]] (.tuple #[.agg #[.int .u64 b, .int .i64 m, .int .u64 f3], .int .u64 y, .int .i64 0]))
    (hM : Says 15 #[.agg #[.int .u64 b, .int .i64 m, .int .u64 f2]] (.int .i64 (c + 1)))
    (hN : Says 15 #[.agg #[.int .u64 b, .int .i64 m, .int .u64 f]] (.int .i64 c))
    (hw : IntKind.i64.wrap (c + 1) = c + 1) (hle : y ≤ u) (hyu : (y != u) = true) :
    Calls Tryd.prog 6 #[.agg #[.int .u64 b, .int .i64 m, .int .u64 f], .int .u64 u] w fun e w' => e = .returned (.bool true) ∧ Below w.heap.size w w' := by
  have HR := Lib.hid hR
  have HT := Lib.hid hT
  have HG := Lib.hid hG
  have HD := Lib.hid hD
  have HM := Lib.hid hM
  have HN := Lib.hid hN
  have HL := Lib.hid hl
  have hid0 := Lib.hid (Below.refl w.heap.size w)
  clear hl hR hT hG hD hM hN
  have hle0 : decide (y ≤ u) = true := decide_eq_true hle
  clear hle
  go_enter Tryd.func6, Tryd.ntmps6
  go_wp2_with fail
  refine (atlaslaw04_awake.calls true _ (HL.out.alloc _) rfl).mono ?_
  rintro e w1 ⟨rfl, hb⟩
  have hid1 := Lib.hid (below_then (below_alloc hid0.out _) (below_alloc hid0.out _).size hb)
  have P1 := Lib.hid ((Own3.new w (.int .u64 b) (.int .i64 m) (.int .u64 f) 24).below hb)
  clear hb hid0 
  have Pq0 := P1.out.c0
  have Pr0 := fun o => (P1.out.alloc o).c0
  have Pq1 := P1.out.c1
  have Pr1 := fun o => (P1.out.alloc o).c1
  have Pq2 := P1.out.c2
  have Pr2 := fun o => (P1.out.alloc o).c2
  go_wp2_with fail
  clear Pq0 Pr0 Pq1 Pr1 Pq2 Pr2
  refine (HR.out _ (HL.out.below hid1.out)).mono ?_
  rintro e w2 ⟨rfl, hb⟩
  have hid2 := Lib.hid (below_then hid1.out hid1.out.size hb)
  have P2 := Lib.hid (P1.out.below hb)
  clear hb hid1 P1
  have Pq0 := P2.out.c0
  have Pr0 := fun o => (P2.out.alloc o).c0
  have Pq1 := P2.out.c1
  have Pr1 := fun o => (P2.out.alloc o).c1
  have Pq2 := P2.out.c2
  have Pr2 := fun o => (P2.out.alloc o).c2
  go_wp2_with fail
  clear Pq0 Pr0 Pq1 Pr1 Pq2 Pr2
  refine (HT.out _ (HL.out.below hid2.out)).mono ?_
  rintro e w3 ⟨rfl, hb⟩
  have hid3 := Lib.hid (below_then hid2.out hid2.out.size hb)
  have P3 := Lib.hid (P2.out.below hb)
  clear hb hid2 P2
  have Pq0 := P3.out.c0
  have Pr0 := fun o => (P3.out.alloc o).c0
  have Pq1 := P3.out.c1
  have Pr1 := fun o => (P3.out.alloc o).c1
  have Pq2 := P3.out.c2
  have Pr2 := fun o => (P3.out.alloc o).c2
  go_wp2_with fail
  clear Pq0 Pr0 Pq1 Pr1 Pq2 Pr2
  refine (HG.out _ ((HL.out.below hid3.out).alloc _)).mono ?_
  rintro e w4 ⟨rfl, hb⟩
  have hid4 := Lib.hid (below_then (below_alloc hid3.out _) (below_alloc hid3.out _).size hb)
  have P4 := Lib.hid ((P3.out.alloc _).below hb)
  have A4 := Lib.hid ((Own3.new w3 (.int .u64 b) (.int .i64 m) (.int .u64 f) 24).below hb)
  clear hb hid3 P3
  have Pq0 := P4.out.c0
  have Pr0 := fun o => (P4.out.alloc o).c0
  have Pq1 := P4.out.c1
  have Pr1 := fun o => (P4.out.alloc o).c1
  have Pq2 := P4.out.c2
  have Pr2 := fun o => (P4.out.alloc o).c2
  have Aq0 := A4.out.c0
  have Ar0 := fun o => (A4.out.alloc o).c0
  have Aq1 := A4.out.c1
  have Ar1 := fun o => (A4.out.alloc o).c1
  have Aq2 := A4.out.c2
  have Ar2 := fun o => (A4.out.alloc o).c2
  go_wp2_with fail
  clear Pq0 Pr0 Pq1 Pr1 Pq2 Pr2 Aq0 Ar0 Aq1 Ar1 Aq2 Ar2
  refine (HD.out _ ((HL.out.below hid4.out).alloc _)).mono ?_
  rintro e w5 ⟨rfl, hb⟩
  have hid5 := Lib.hid (below_then (below_alloc hid4.out _) (below_alloc hid4.out _).size hb)
  have P5 := Lib.hid ((P4.out.alloc _).below hb)
  have A5 := Lib.hid ((A4.out.alloc _).below hb)
  have C5 := Lib.hid ((Own3.new w4 (.int .u64 b) (.int .i64 m) (.int .u64 f2) 24).below hb)
  clear hb hid4 P4 A4
  have Pq0 := P5.out.c0
  have Pr0 := fun o => (P5.out.alloc o).c0
  have Pq1 := P5.out.c1
  have Pr1 := fun o => (P5.out.alloc o).c1
  have Pq2 := P5.out.c2
  have Pr2 := fun o => (P5.out.alloc o).c2
  have Aq0 := A5.out.c0
  have Ar0 := fun o => (A5.out.alloc o).c0
  have Aq1 := A5.out.c1
  have Ar1 := fun o => (A5.out.alloc o).c1
  have Aq2 := A5.out.c2
  have Ar2 := fun o => (A5.out.alloc o).c2
  have Cq0 := C5.out.c0
  have Cr0 := fun o => (C5.out.alloc o).c0
  have Cq1 := C5.out.c1
  have Cr1 := fun o => (C5.out.alloc o).c1
  have Cq2 := C5.out.c2
  have Cr2 := fun o => (C5.out.alloc o).c2
  go_wp2_with fail
  clear Pq0 Pr0 Pq1 Pr1 Pq2 Pr2 Aq0 Ar0 Aq1 Ar1 Aq2 Ar2 Cq0 Cr0 Cq1 Cr1 Cq2 Cr2
  have hBA := Lib.hid (fun o => (below_alloc hid5.out o).drew)
  have hLA := Lib.hid (fun o => HL.out.below (hBA.out o))
  have hPA := Lib.hid (fun o => (P5.out.alloc o).below (Below.refl _ _).drew)
  have hCA := Lib.hid (fun o => (C5.out.alloc o).below (Below.refl _ _).drew)
  clear hid5 P5 A5 C5
  refine wp_region_held_drew (S := (fun w' => Ld w' ∧ Below w.heap.size w w' ∧ w'.cell? ⟨w.heap.size, 0, none⟩ = some (.int .u64 b) ∧ w'.cell? ⟨w.heap.size, 1, none⟩ = some (.int .i64 m) ∧ w'.cell? ⟨w.heap.size, 2, none⟩ = some (.int .u64 f) ∧ w'.cell? ⟨w4.heap.size, 0, none⟩ = some (.int .u64 b) ∧ w'.cell? ⟨w4.heap.size, 1, none⟩ = some (.int .i64 m) ∧ w'.cell? ⟨w4.heap.size, 2, none⟩ = some (.int .u64 f2))) (by kernel_rfl) (⟨hLA.out _, hBA.out _, (hPA.out _).c0, (hPA.out _).c1, (hPA.out _).c2, (hCA.out _).c0, (hCA.out _).c1, (hCA.out _).c2⟩) (fun hHeld => ?_)
  refine Reg.take_yes (i := 0) (d := some 78) (v := ?v1) rfl rfl (by kernel_rfl) (by kernel_rfl) (by kernel_rfl) (fun _ _ _ h => h) (by rfl) ?y1 hHeld ?r1
  case y1 =>
    intro wS hS
    go_simp
    all_goals with_reducible rfl
  try simp only [Act.put, List.setIfInBounds_toArray, List.set_cons_zero, List.set_cons_succ]
  refine Reg.take_yes (i := 1) (d := some 79) (v := ?v2) rfl rfl (by kernel_rfl) (by kernel_rfl) (by kernel_rfl) (fun _ _ _ h => h) (by rfl) ?y2 hHeld ?r2
  case y2 =>
    intro wS hS
    go_simp
    all_goals with_reducible rfl
  try simp only [Act.put, List.setIfInBounds_toArray, List.set_cons_zero, List.set_cons_succ]
  refine Reg.take_yes (i := 2) (d := some 80) (v := ?v3) rfl rfl (by kernel_rfl) (by kernel_rfl) (by kernel_rfl) (fun _ _ _ h => h) (by rfl) ?y3 hHeld ?r3
  case y3 =>
    intro wS hS
    go_simp
    all_goals with_reducible rfl
  try simp only [Act.put, List.setIfInBounds_toArray, List.set_cons_zero, List.set_cons_succ]
  refine Reg.take_yes (i := 3) (d := some 81) (v := ?v4) rfl rfl (by kernel_rfl) (by kernel_rfl) (by kernel_rfl) (fun _ _ _ h => h) (by rfl) ?y4 hHeld ?r4
  case y4 =>
    intro wS hS
    go_simp
    all_goals with_reducible rfl
  try simp only [Act.put, List.setIfInBounds_toArray, List.set_cons_zero, List.set_cons_succ]
  refine Reg.take_yes (i := 4) (d := some 82) (v := ?v5) rfl rfl (by kernel_rfl) (by kernel_rfl) (by kernel_rfl) (fun _ _ _ h => h) (by rfl) ?y5 hHeld ?r5
  case y5 =>
    intro wS hS
    go_simp
    all_goals with_reducible rfl
  try simp only [Act.put, List.setIfInBounds_toArray, List.set_cons_zero, List.set_cons_succ]
  refine Reg.take_yes (i := 5) (d := some 83) (v := ?v6) rfl rfl (by kernel_rfl) (by kernel_rfl) (by kernel_rfl) (fun _ _ _ h => h) (by rfl) ?y6 hHeld ?r6
  case y6 =>
    intro wS hS
    go_simp
    all_goals with_reducible rfl
  try simp only [Act.put, List.setIfInBounds_toArray, List.set_cons_zero, List.set_cons_succ]
  refine Reg.take_yes (i := 6) (d := some 84) (v := ?v7) rfl rfl (by kernel_rfl) (by kernel_rfl) (by kernel_rfl) (fun _ _ _ h => h) (by rfl) ?y7 hHeld ?r7
  case y7 =>
    intro wS hS
    go_simp
    all_goals with_reducible rfl
  try simp only [Act.put, List.setIfInBounds_toArray, List.set_cons_zero, List.set_cons_succ]
  refine Reg.take_yes (i := 7) (d := some 85) (v := ?v8) rfl rfl (by kernel_rfl) (by kernel_rfl) (by kernel_rfl) (fun _ _ _ h => h) (by rfl) ?y8 hHeld ?r8
  case y8 =>
    intro wS hS
    go_simp
    all_goals with_reducible rfl
  try simp only [Act.put, List.setIfInBounds_toArray, List.set_cons_zero, List.set_cons_succ]
  refine Reg.take_yes (i := 8) (d := some 86) (v := ?v9) rfl rfl (by kernel_rfl) (by kernel_rfl) (by kernel_rfl) (fun _ _ _ h => h) (by rfl) ?y9 hHeld ?r9
  case y9 =>
    intro wS hS
    go_simp
    all_goals with_reducible rfl
  try simp only [Act.put, List.setIfInBounds_toArray, List.set_cons_zero, List.set_cons_succ]
  refine Reg.take_yes (i := 9) (d := some 87) (v := ?v10) rfl rfl (by kernel_rfl) (by kernel_rfl) (by kernel_rfl) (fun _ _ _ h => h) (by rfl) ?y10 hHeld ?r10
  case y10 =>
    intro wS hS
    go_simp
    all_goals with_reducible rfl
  try simp only [Act.put, List.setIfInBounds_toArray, List.set_cons_zero, List.set_cons_succ]
  refine Reg.take_yes (i := 10) (d := some 88) (v := ?v11) rfl rfl (by kernel_rfl) (by kernel_rfl) (by kernel_rfl) (fun _ _ _ h => h) (by rfl) ?y11 hHeld ?r11
  case y11 =>
    intro wS hS
    go_simp
    all_goals with_reducible rfl
  try simp only [Act.put, List.setIfInBounds_toArray, List.set_cons_zero, List.set_cons_succ]
  refine Reg.take_yes (i := 11) (d := some 89) (v := ?v12) rfl rfl (by kernel_rfl) (by kernel_rfl) (by kernel_rfl) (fun _ _ _ h => h) (by rfl) ?y12 hHeld ?r12
  case y12 =>
    intro wS hS
    go_simp
    all_goals with_reducible rfl
  try simp only [Act.put, List.setIfInBounds_toArray, List.set_cons_zero, List.set_cons_succ]
  refine Reg.take_no (i := 12) (d := some 90) rfl rfl (by kernel_rfl) (by kernel_rfl) (by kernel_rfl) (fun _ _ _ h => h) (by rfl) hHeld ?_
  try simp only [Act.put, List.setIfInBounds_toArray, List.set_cons_zero, List.set_cons_succ]
  refine Reg.take_no (i := 13) (d := some 91) rfl rfl (by kernel_rfl) (by kernel_rfl) (by kernel_rfl) (fun _ _ _ h => h) (by rfl) hHeld ?_
  try simp only [Act.put, List.setIfInBounds_toArray, List.set_cons_zero, List.set_cons_succ]
  refine Reg.take_no (i := 14) (d := some 92) rfl rfl (by kernel_rfl) (by kernel_rfl) (by kernel_rfl) (fun _ _ _ h => h) (by rfl) hHeld ?_
  try simp only [Act.put, List.setIfInBounds_toArray, List.set_cons_zero, List.set_cons_succ]
  refine Reg.take_yes (i := 15) (d := some 93) (v := ?v13) rfl rfl (by kernel_rfl) (by kernel_rfl) (by kernel_rfl) (fun _ _ _ h => h) (by rfl) ?y13 hHeld ?r13
  case y13 =>
    intro wS hS
    go_simp
    all_goals with_reducible rfl
  try simp only [Act.put, List.setIfInBounds_toArray, List.set_cons_zero, List.set_cons_succ]
  refine Reg.take_yes (i := 16) (d := some 94) (v := ?v14) rfl rfl (by kernel_rfl) (by kernel_rfl) (by kernel_rfl) (fun _ _ _ h => h) (by rfl) ?y14 hHeld ?r14
  case y14 =>
    intro wS hS
    go_simp
    all_goals with_reducible rfl
  try simp only [Act.put, List.setIfInBounds_toArray, List.set_cons_zero, List.set_cons_succ]
  refine Reg.take_yes (i := 17) (d := some 95) (v := ?v15) rfl rfl (by kernel_rfl) (by kernel_rfl) (by kernel_rfl) (fun _ _ _ h => h) (by rfl) ?y15 hHeld ?r15
  case y15 =>
    intro wS hS
    go_simp
    all_goals with_reducible rfl
  try simp only [Act.put, List.setIfInBounds_toArray, List.set_cons_zero, List.set_cons_succ]
  refine Reg.take_yes (i := 18) (d := some 96) (v := ?v16) rfl rfl (by kernel_rfl) (by kernel_rfl) (by kernel_rfl) (fun _ _ _ h => h) (by rfl) ?y16 hHeld ?r16
  case y16 =>
    intro wS hS
    obtain ⟨sL, sB, s0, s1, s2, s3, s4, s5⟩ := hS
    go_simp
    all_goals with_reducible rfl
  try simp only [Act.put, List.setIfInBounds_toArray, List.set_cons_zero, List.set_cons_succ]
  refine Reg.take_yes (i := 20) (d := some 98) (v := ?v17) rfl rfl (by kernel_rfl) (by kernel_rfl) (by kernel_rfl) (fun _ _ _ h => h) (by rfl) ?y17 hHeld ?r17
  case y17 =>
    intro wS hS
    obtain ⟨sL, sB, s0, s1, s2, s3, s4, s5⟩ := hS
    go_simp
    all_goals with_reducible rfl
  try simp only [Act.put, List.setIfInBounds_toArray, List.set_cons_zero, List.set_cons_succ]
  refine wpAnyH_ready (rs := [19]) (by kernel_rfl) (by simp) ?_
  refine Reg.cons_yes rfl (by rfl) (fun K hK => ?_) ?_
  · go_simp
    have hH := hHeld
    obtain ⟨sL, sB, s0, s1, s2, s3, s4, s5⟩ := hH
    refine Calls.mono (HM.out _ sL) ?_
    rintro e wA ⟨rfl, hb⟩
    refine hK.out _ _ (⟨sL.below hb, below_then sB sB.size hb, cell_later hb s0, cell_later hb s1, cell_later hb s2, cell_later hb s3, cell_later hb s4, cell_later hb s5⟩) (fun hHeld => ?_)
    clear hK K
    try simp only [Act.put, List.setIfInBounds_toArray, List.set_cons_zero, List.set_cons_succ]
    refine wpAnyH_ready (rs := [21]) (by kernel_rfl) (by simp) ?_
    refine Reg.cons_yes rfl (by rfl) (fun K hK => ?_) ?_
    · go_simp
      have hH := hHeld
      obtain ⟨sL, sB, s0, s1, s2, s3, s4, s5⟩ := hH
      refine Calls.mono (HN.out _ sL) ?_
      rintro e wA ⟨rfl, hb⟩
      refine hK.out _ _ (⟨sL.below hb, below_then sB sB.size hb, cell_later hb s0, cell_later hb s1, cell_later hb s2, cell_later hb s3, cell_later hb s4, cell_later hb s5⟩) (fun hHeld => ?_)
      clear hK K
      try simp only [Act.put, List.setIfInBounds_toArray, List.set_cons_zero, List.set_cons_succ]
      refine Reg.take_yes (i := 22) (d := some 100) (v := ?v18) rfl rfl (by kernel_rfl) (by kernel_rfl) (by kernel_rfl) (fun _ _ _ h => h) (by rfl) ?y18 hHeld ?r18
      case y18 =>
        intro wS hS
        go_simp
        all_goals with_reducible rfl
      try simp only [Act.put, List.setIfInBounds_toArray, List.set_cons_zero, List.set_cons_succ]
      refine Reg.take_yes (i := 23) (d := some 101) (v := ?v19) rfl rfl (by kernel_rfl) (by kernel_rfl) (by kernel_rfl) (fun _ _ _ h => h) (by rfl) ?y19 hHeld ?r19
      case y19 =>
        intro wS hS
        go_simp
        all_goals with_reducible rfl
      try simp only [Act.put, List.setIfInBounds_toArray, List.set_cons_zero, List.set_cons_succ]
      refine Reg.take_yes (i := 24) (d := some 102) (v := ?v20) rfl rfl (by kernel_rfl) (by kernel_rfl) (by kernel_rfl) (fun _ _ _ h => h) (by rfl) ?y20 hHeld ?r20
      case y20 =>
        intro wS hS
        go_simp
        all_goals with_reducible rfl
      try simp only [Act.put, List.setIfInBounds_toArray, List.set_cons_zero, List.set_cons_succ]
      refine Reg.take_yes (i := 25) (d := some 4) (v := ?v21) rfl rfl (by kernel_rfl) (by kernel_rfl) (by kernel_rfl) (fun _ _ _ h => h) (by rfl) ?y21 hHeld ?r21
      case y21 =>
        intro wS hS
        go_simp
        all_goals with_reducible rfl
      try simp only [Act.put, List.setIfInBounds_toArray, List.set_cons_zero, List.set_cons_succ]
      refine wpAnyH_done (by kernel_rfl) ?_ _
      obtain ⟨_, hB, _⟩ := hHeld
      go_wp2_with fail
      go_ret
      exact ⟨rfl, hB⟩
    exact AllReadyH.nil
  exact AllReadyH.nil
set_option maxRecDepth 100000 in
set_option maxHeartbeats 4000000 in
theorem walk_011 (b m f u f2 y c : Int) (w : World) (hl : Ld w)
    (hR : Says 10 #[.agg #[.int .u64 b, .int .i64 m, .int .u64 f]] (.bool true))
    (hT : Says 11 #[.agg #[.int .u64 b, .int .i64 m, .int .u64 f]] (.tuple #[.agg #[.int .u64 b, .int .i64 m, .int .u64 f], .int .u64 0, .int .i64 8]))
    (hG : Says 13 #[.agg #[.int .u64 b, .int .i64 m, .int .u64 f], .int .u64 u] (.tuple #[.agg #[.int .u64 b, .int .i64 m, .int .u64 f2], .int .i64 0]))
    (hD : Says 11 #[.agg #[.int .u64 b, .int .i64 m, .int .u64 f2]] (.tuple #[.agg #[.int .u64 b, .int .i64 m, .int .u64 f], .int .u64 y, .int .i64 0]))
    (hM : Says 15 #[.agg #[.int .u64 b, .int .i64 m, .int .u64 f2]] (.int .i64 (c + 1)))
    (hN : Says 15 #[.agg #[.int .u64 b, .int .i64 m, .int .u64 f]] (.int .i64 c))
    (hw : IntKind.i64.wrap (c + 1) = c + 1) (hle : y ≤ u) (hyu : (y != u) = false) :
    Calls Tryd.prog 6 #[.agg #[.int .u64 b, .int .i64 m, .int .u64 f], .int .u64 u] w fun e w' => e = .returned (.bool true) ∧ Below w.heap.size w w' := by
  have HR := Lib.hid hR
  have HT := Lib.hid hT
  have HG := Lib.hid hG
  have HD := Lib.hid hD
  have HM := Lib.hid hM
  have HN := Lib.hid hN
  have HL := Lib.hid hl
  have hid0 := Lib.hid (Below.refl w.heap.size w)
  clear hl hR hT hG hD hM hN
  have hle0 : decide (y ≤ u) = true := decide_eq_true hle
  clear hle
  go_enter Tryd.func6, Tryd.ntmps6
  go_wp2_with fail
  refine (atlaslaw04_awake.calls true _ (HL.out.alloc _) rfl).mono ?_
  rintro e w1 ⟨rfl, hb⟩
  have hid1 := Lib.hid (below_then (below_alloc hid0.out _) (below_alloc hid0.out _).size hb)
  have P1 := Lib.hid ((Own3.new w (.int .u64 b) (.int .i64 m) (.int .u64 f) 24).below hb)
  clear hb hid0 
  have Pq0 := P1.out.c0
  have Pr0 := fun o => (P1.out.alloc o).c0
  have Pq1 := P1.out.c1
  have Pr1 := fun o => (P1.out.alloc o).c1
  have Pq2 := P1.out.c2
  have Pr2 := fun o => (P1.out.alloc o).c2
  go_wp2_with fail
  clear Pq0 Pr0 Pq1 Pr1 Pq2 Pr2
  refine (HR.out _ (HL.out.below hid1.out)).mono ?_
  rintro e w2 ⟨rfl, hb⟩
  have hid2 := Lib.hid (below_then hid1.out hid1.out.size hb)
  have P2 := Lib.hid (P1.out.below hb)
  clear hb hid1 P1
  have Pq0 := P2.out.c0
  have Pr0 := fun o => (P2.out.alloc o).c0
  have Pq1 := P2.out.c1
  have Pr1 := fun o => (P2.out.alloc o).c1
  have Pq2 := P2.out.c2
  have Pr2 := fun o => (P2.out.alloc o).c2
  go_wp2_with fail
  clear Pq0 Pr0 Pq1 Pr1 Pq2 Pr2
  refine (HT.out _ (HL.out.below hid2.out)).mono ?_
  rintro e w3 ⟨rfl, hb⟩
  have hid3 := Lib.hid (below_then hid2.out hid2.out.size hb)
  have P3 := Lib.hid (P2.out.below hb)
  clear hb hid2 P2
  have Pq0 := P3.out.c0
  have Pr0 := fun o => (P3.out.alloc o).c0
  have Pq1 := P3.out.c1
  have Pr1 := fun o => (P3.out.alloc o).c1
  have Pq2 := P3.out.c2
  have Pr2 := fun o => (P3.out.alloc o).c2
  go_wp2_with fail
  clear Pq0 Pr0 Pq1 Pr1 Pq2 Pr2
  refine (HG.out _ ((HL.out.below hid3.out).alloc _)).mono ?_
  rintro e w4 ⟨rfl, hb⟩
  have hid4 := Lib.hid (below_then (below_alloc hid3.out _) (below_alloc hid3.out _).size hb)
  have P4 := Lib.hid ((P3.out.alloc _).below hb)
  have A4 := Lib.hid ((Own3.new w3 (.int .u64 b) (.int .i64 m) (.int .u64 f) 24).below hb)
  clear hb hid3 P3
  have Pq0 := P4.out.c0
  have Pr0 := fun o => (P4.out.alloc o).c0
  have Pq1 := P4.out.c1
  have Pr1 := fun o => (P4.out.alloc o).c1
  have Pq2 := P4.out.c2
  have Pr2 := fun o => (P4.out.alloc o).c2
  have Aq0 := A4.out.c0
  have Ar0 := fun o => (A4.out.alloc o).c0
  have Aq1 := A4.out.c1
  have Ar1 := fun o => (A4.out.alloc o).c1
  have Aq2 := A4.out.c2
  have Ar2 := fun o => (A4.out.alloc o).c2
  go_wp2_with fail
  clear Pq0 Pr0 Pq1 Pr1 Pq2 Pr2 Aq0 Ar0 Aq1 Ar1 Aq2 Ar2
  refine (HD.out _ ((HL.out.below hid4.out).alloc _)).mono ?_
  rintro e w5 ⟨rfl, hb⟩
  have hid5 := Lib.hid (below_then (below_alloc hid4.out _) (below_alloc hid4.out _).size hb)
  have P5 := Lib.hid ((P4.out.alloc _).below hb)
  have A5 := Lib.hid ((A4.out.alloc _).below hb)
  have C5 := Lib.hid ((Own3.new w4 (.int .u64 b) (.int .i64 m) (.int .u64 f2) 24).below hb)
  clear hb hid4 P4 A4
  have Pq0 := P5.out.c0
  have Pr0 := fun o => (P5.out.alloc o).c0
  have Pq1 := P5.out.c1
  have Pr1 := fun o => (P5.out.alloc o).c1
  have Pq2 := P5.out.c2
  have Pr2 := fun o => (P5.out.alloc o).c2
  have Aq0 := A5.out.c0
  have Ar0 := fun o => (A5.out.alloc o).c0
  have Aq1 := A5.out.c1
  have Ar1 := fun o => (A5.out.alloc o).c1
  have Aq2 := A5.out.c2
  have Ar2 := fun o => (A5.out.alloc o).c2
  have Cq0 := C5.out.c0
  have Cr0 := fun o => (C5.out.alloc o).c0
  have Cq1 := C5.out.c1
  have Cr1 := fun o => (C5.out.alloc o).c1
  have Cq2 := C5.out.c2
  have Cr2 := fun o => (C5.out.alloc o).c2
  go_wp2_with fail
  clear Pq0 Pr0 Pq1 Pr1 Pq2 Pr2 Aq0 Ar0 Aq1 Ar1 Aq2 Ar2 Cq0 Cr0 Cq1 Cr1 Cq2 Cr2
  have hBA := Lib.hid (fun o => (below_alloc hid5.out o).drew)
  have hLA := Lib.hid (fun o => HL.out.below (hBA.out o))
  have hPA := Lib.hid (fun o => (P5.out.alloc o).below (Below.refl _ _).drew)
  have hCA := Lib.hid (fun o => (C5.out.alloc o).below (Below.refl _ _).drew)
  have hDA := Lib.hid ((Own3.new w5 (.int .u64 b) (.int .i64 m) (.int .u64 f) 24).below (Below.refl _ _).drew)
  clear hid5 P5 A5 C5
  refine wp_region_held_drew (S := (fun w' => Ld w' ∧ Below w.heap.size w w' ∧ w'.cell? ⟨w.heap.size, 0, none⟩ = some (.int .u64 b) ∧ w'.cell? ⟨w.heap.size, 1, none⟩ = some (.int .i64 m) ∧ w'.cell? ⟨w.heap.size, 2, none⟩ = some (.int .u64 f) ∧ w'.cell? ⟨w4.heap.size, 0, none⟩ = some (.int .u64 b) ∧ w'.cell? ⟨w4.heap.size, 1, none⟩ = some (.int .i64 m) ∧ w'.cell? ⟨w4.heap.size, 2, none⟩ = some (.int .u64 f2) ∧ w'.cell? ⟨w5.heap.size, 0, none⟩ = some (.int .u64 b) ∧ w'.cell? ⟨w5.heap.size, 1, none⟩ = some (.int .i64 m) ∧ w'.cell? ⟨w5.heap.size, 2, none⟩ = some (.int .u64 f))) (by kernel_rfl) (⟨hLA.out _, hBA.out _, (hPA.out _).c0, (hPA.out _).c1, (hPA.out _).c2, (hCA.out _).c0, (hCA.out _).c1, (hCA.out _).c2, (hDA.out).c0, (hDA.out).c1, (hDA.out).c2⟩) (fun hHeld => ?_)
  refine Reg.take_yes (i := 0) (d := some 78) (v := ?v1) rfl rfl (by kernel_rfl) (by kernel_rfl) (by kernel_rfl) (fun _ _ _ h => h) (by rfl) ?y1 hHeld ?r1
  case y1 =>
    intro wS hS
    go_simp
    all_goals with_reducible rfl
  try simp only [Act.put, List.setIfInBounds_toArray, List.set_cons_zero, List.set_cons_succ]
  refine Reg.take_yes (i := 1) (d := some 79) (v := ?v2) rfl rfl (by kernel_rfl) (by kernel_rfl) (by kernel_rfl) (fun _ _ _ h => h) (by rfl) ?y2 hHeld ?r2
  case y2 =>
    intro wS hS
    go_simp
    all_goals with_reducible rfl
  try simp only [Act.put, List.setIfInBounds_toArray, List.set_cons_zero, List.set_cons_succ]
  refine Reg.take_yes (i := 2) (d := some 80) (v := ?v3) rfl rfl (by kernel_rfl) (by kernel_rfl) (by kernel_rfl) (fun _ _ _ h => h) (by rfl) ?y3 hHeld ?r3
  case y3 =>
    intro wS hS
    go_simp
    all_goals with_reducible rfl
  try simp only [Act.put, List.setIfInBounds_toArray, List.set_cons_zero, List.set_cons_succ]
  refine Reg.take_yes (i := 3) (d := some 81) (v := ?v4) rfl rfl (by kernel_rfl) (by kernel_rfl) (by kernel_rfl) (fun _ _ _ h => h) (by rfl) ?y4 hHeld ?r4
  case y4 =>
    intro wS hS
    go_simp
    all_goals with_reducible rfl
  try simp only [Act.put, List.setIfInBounds_toArray, List.set_cons_zero, List.set_cons_succ]
  refine Reg.take_yes (i := 4) (d := some 82) (v := ?v5) rfl rfl (by kernel_rfl) (by kernel_rfl) (by kernel_rfl) (fun _ _ _ h => h) (by rfl) ?y5 hHeld ?r5
  case y5 =>
    intro wS hS
    go_simp
    all_goals with_reducible rfl
  try simp only [Act.put, List.setIfInBounds_toArray, List.set_cons_zero, List.set_cons_succ]
  refine Reg.take_yes (i := 5) (d := some 83) (v := ?v6) rfl rfl (by kernel_rfl) (by kernel_rfl) (by kernel_rfl) (fun _ _ _ h => h) (by rfl) ?y6 hHeld ?r6
  case y6 =>
    intro wS hS
    go_simp
    all_goals with_reducible rfl
  try simp only [Act.put, List.setIfInBounds_toArray, List.set_cons_zero, List.set_cons_succ]
  refine Reg.take_yes (i := 6) (d := some 84) (v := ?v7) rfl rfl (by kernel_rfl) (by kernel_rfl) (by kernel_rfl) (fun _ _ _ h => h) (by rfl) ?y7 hHeld ?r7
  case y7 =>
    intro wS hS
    go_simp
    all_goals with_reducible rfl
  try simp only [Act.put, List.setIfInBounds_toArray, List.set_cons_zero, List.set_cons_succ]
  refine Reg.take_yes (i := 7) (d := some 85) (v := ?v8) rfl rfl (by kernel_rfl) (by kernel_rfl) (by kernel_rfl) (fun _ _ _ h => h) (by rfl) ?y8 hHeld ?r8
  case y8 =>
    intro wS hS
    go_simp
    all_goals with_reducible rfl
  try simp only [Act.put, List.setIfInBounds_toArray, List.set_cons_zero, List.set_cons_succ]
  refine Reg.take_yes (i := 8) (d := some 86) (v := ?v9) rfl rfl (by kernel_rfl) (by kernel_rfl) (by kernel_rfl) (fun _ _ _ h => h) (by rfl) ?y9 hHeld ?r9
  case y9 =>
    intro wS hS
    go_simp
    all_goals with_reducible rfl
  try simp only [Act.put, List.setIfInBounds_toArray, List.set_cons_zero, List.set_cons_succ]
  refine Reg.take_yes (i := 9) (d := some 87) (v := ?v10) rfl rfl (by kernel_rfl) (by kernel_rfl) (by kernel_rfl) (fun _ _ _ h => h) (by rfl) ?y10 hHeld ?r10
  case y10 =>
    intro wS hS
    go_simp
    all_goals with_reducible rfl
  try simp only [Act.put, List.setIfInBounds_toArray, List.set_cons_zero, List.set_cons_succ]
  refine Reg.take_yes (i := 10) (d := some 88) (v := ?v11) rfl rfl (by kernel_rfl) (by kernel_rfl) (by kernel_rfl) (fun _ _ _ h => h) (by rfl) ?y11 hHeld ?r11
  case y11 =>
    intro wS hS
    go_simp
    all_goals with_reducible rfl
  try simp only [Act.put, List.setIfInBounds_toArray, List.set_cons_zero, List.set_cons_succ]
  refine Reg.take_yes (i := 11) (d := some 89) (v := ?v12) rfl rfl (by kernel_rfl) (by kernel_rfl) (by kernel_rfl) (fun _ _ _ h => h) (by rfl) ?y12 hHeld ?r12
  case y12 =>
    intro wS hS
    go_simp
    all_goals with_reducible rfl
  try simp only [Act.put, List.setIfInBounds_toArray, List.set_cons_zero, List.set_cons_succ]
  refine Reg.take_yes (i := 12) (d := some 90) (v := ?v13) rfl rfl (by kernel_rfl) (by kernel_rfl) (by kernel_rfl) (fun _ _ _ h => h) (by rfl) ?y13 hHeld ?r13
  case y13 =>
    intro wS hS
    obtain ⟨sL, sB, s0, s1, s2, s3, s4, s5, s6, s7, s8⟩ := hS
    go_simp
    all_goals with_reducible rfl
  try simp only [Act.put, List.setIfInBounds_toArray, List.set_cons_zero, List.set_cons_succ]
  refine Reg.take_yes (i := 13) (d := some 91) (v := ?v14) rfl rfl (by kernel_rfl) (by kernel_rfl) (by kernel_rfl) (fun _ _ _ h => h) (by rfl) ?y14 hHeld ?r14
  case y14 =>
    intro wS hS
    obtain ⟨sL, sB, s0, s1, s2, s3, s4, s5, s6, s7, s8⟩ := hS
    go_simp
    all_goals with_reducible rfl
  try simp only [Act.put, List.setIfInBounds_toArray, List.set_cons_zero, List.set_cons_succ]
  refine Reg.take_yes (i := 14) (d := some 92) (v := ?v15) rfl rfl (by kernel_rfl) (by kernel_rfl) (by kernel_rfl) (fun _ _ _ h => h) (by rfl) ?y15 hHeld ?r15
  case y15 =>
    intro wS hS
    go_simp
    all_goals with_reducible rfl
  try simp only [Act.put, List.setIfInBounds_toArray, List.set_cons_zero, List.set_cons_succ]
  refine Reg.take_yes (i := 15) (d := some 93) (v := ?v16) rfl rfl (by kernel_rfl) (by kernel_rfl) (by kernel_rfl) (fun _ _ _ h => h) (by rfl) ?y16 hHeld ?r16
  case y16 =>
    intro wS hS
    go_simp
    all_goals with_reducible rfl
  try simp only [Act.put, List.setIfInBounds_toArray, List.set_cons_zero, List.set_cons_succ]
  refine Reg.take_yes (i := 16) (d := some 94) (v := ?v17) rfl rfl (by kernel_rfl) (by kernel_rfl) (by kernel_rfl) (fun _ _ _ h => h) (by rfl) ?y17 hHeld ?r17
  case y17 =>
    intro wS hS
    go_simp
    all_goals with_reducible rfl
  try simp only [Act.put, List.setIfInBounds_toArray, List.set_cons_zero, List.set_cons_succ]
  refine Reg.take_yes (i := 17) (d := some 95) (v := ?v18) rfl rfl (by kernel_rfl) (by kernel_rfl) (by kernel_rfl) (fun _ _ _ h => h) (by rfl) ?y18 hHeld ?r18
  case y18 =>
    intro wS hS
    go_simp
    all_goals with_reducible rfl
  try simp only [Act.put, List.setIfInBounds_toArray, List.set_cons_zero, List.set_cons_succ]
  refine Reg.take_yes (i := 18) (d := some 96) (v := ?v19) rfl rfl (by kernel_rfl) (by kernel_rfl) (by kernel_rfl) (fun _ _ _ h => h) (by rfl) ?y19 hHeld ?r19
  case y19 =>
    intro wS hS
    obtain ⟨sL, sB, s0, s1, s2, s3, s4, s5, s6, s7, s8⟩ := hS
    go_simp
    all_goals with_reducible rfl
  try simp only [Act.put, List.setIfInBounds_toArray, List.set_cons_zero, List.set_cons_succ]
  refine Reg.take_yes (i := 20) (d := some 98) (v := ?v20) rfl rfl (by kernel_rfl) (by kernel_rfl) (by kernel_rfl) (fun _ _ _ h => h) (by rfl) ?y20 hHeld ?r20
  case y20 =>
    intro wS hS
    obtain ⟨sL, sB, s0, s1, s2, s3, s4, s5, s6, s7, s8⟩ := hS
    go_simp
    all_goals with_reducible rfl
  try simp only [Act.put, List.setIfInBounds_toArray, List.set_cons_zero, List.set_cons_succ]
  refine wpAnyH_ready (rs := [19]) (by kernel_rfl) (by simp) ?_
  refine Reg.cons_yes rfl (by rfl) (fun K hK => ?_) ?_
  · go_simp
    have hH := hHeld
    obtain ⟨sL, sB, s0, s1, s2, s3, s4, s5, s6, s7, s8⟩ := hH
    refine Calls.mono (HM.out _ sL) ?_
    rintro e wA ⟨rfl, hb⟩
    refine hK.out _ _ (⟨sL.below hb, below_then sB sB.size hb, cell_later hb s0, cell_later hb s1, cell_later hb s2, cell_later hb s3, cell_later hb s4, cell_later hb s5, cell_later hb s6, cell_later hb s7, cell_later hb s8⟩) (fun hHeld => ?_)
    clear hK K
    try simp only [Act.put, List.setIfInBounds_toArray, List.set_cons_zero, List.set_cons_succ]
    refine wpAnyH_ready (rs := [21]) (by kernel_rfl) (by simp) ?_
    refine Reg.cons_yes rfl (by rfl) (fun K hK => ?_) ?_
    · go_simp
      have hH := hHeld
      obtain ⟨sL, sB, s0, s1, s2, s3, s4, s5, s6, s7, s8⟩ := hH
      refine Calls.mono (HN.out _ sL) ?_
      rintro e wA ⟨rfl, hb⟩
      refine hK.out _ _ (⟨sL.below hb, below_then sB sB.size hb, cell_later hb s0, cell_later hb s1, cell_later hb s2, cell_later hb s3, cell_later hb s4, cell_later hb s5, cell_later hb s6, cell_later hb s7, cell_later hb s8⟩) (fun hHeld => ?_)
      clear hK K
      try simp only [Act.put, List.setIfInBounds_toArray, List.set_cons_zero, List.set_cons_succ]
      refine Reg.take_yes (i := 22) (d := some 100) (v := ?v21) rfl rfl (by kernel_rfl) (by kernel_rfl) (by kernel_rfl) (fun _ _ _ h => h) (by rfl) ?y21 hHeld ?r21
      case y21 =>
        intro wS hS
        go_simp
        all_goals with_reducible rfl
      try simp only [Act.put, List.setIfInBounds_toArray, List.set_cons_zero, List.set_cons_succ]
      refine Reg.take_yes (i := 23) (d := some 101) (v := ?v22) rfl rfl (by kernel_rfl) (by kernel_rfl) (by kernel_rfl) (fun _ _ _ h => h) (by rfl) ?y22 hHeld ?r22
      case y22 =>
        intro wS hS
        go_simp
        all_goals with_reducible rfl
      try simp only [Act.put, List.setIfInBounds_toArray, List.set_cons_zero, List.set_cons_succ]
      refine Reg.take_yes (i := 24) (d := some 102) (v := ?v23) rfl rfl (by kernel_rfl) (by kernel_rfl) (by kernel_rfl) (fun _ _ _ h => h) (by rfl) ?y23 hHeld ?r23
      case y23 =>
        intro wS hS
        go_simp
        all_goals with_reducible rfl
      try simp only [Act.put, List.setIfInBounds_toArray, List.set_cons_zero, List.set_cons_succ]
      refine Reg.take_yes (i := 25) (d := some 4) (v := ?v24) rfl rfl (by kernel_rfl) (by kernel_rfl) (by kernel_rfl) (fun _ _ _ h => h) (by rfl) ?y24 hHeld ?r24
      case y24 =>
        intro wS hS
        go_simp
        all_goals with_reducible rfl
      try simp only [Act.put, List.setIfInBounds_toArray, List.set_cons_zero, List.set_cons_succ]
      refine wpAnyH_done (by kernel_rfl) ?_ _
      obtain ⟨_, hB, _⟩ := hHeld
      go_wp2_with fail
      go_ret
      exact ⟨rfl, hB⟩
    exact AllReadyH.nil
  exact AllReadyH.nil
set_option maxRecDepth 100000 in
set_option maxHeartbeats 4000000 in
theorem walk_100 (b m f u f1 x : Int) (w : World) (hl : Ld w)
    (hR : Says 10 #[.agg #[.int .u64 b, .int .i64 m, .int .u64 f]] (.bool true))
    (hT : Says 11 #[.agg #[.int .u64 b, .int .i64 m, .int .u64 f]] (.tuple #[.agg #[.int .u64 b, .int .i64 m, .int .u64 f1], .int .u64 x, .int .i64 0]))
    (hB : Says 13 #[.agg #[.int .u64 b, .int .i64 m, .int .u64 f1], .int .u64 x] (.tuple #[.agg #[.int .u64 b, .int .i64 m, .int .u64 f], .int .i64 0]))
    (hJ : Says 17 #[.agg #[.int .u64 b, .int .i64 m, .int .u64 f1], .int .u64 x] (.bool true))
    (hK : Says 17 #[.agg #[.int .u64 b, .int .i64 m, .int .u64 f], .int .u64 x] (.bool false))
    (hG : Says 13 #[.agg #[.int .u64 b, .int .i64 m, .int .u64 f], .int .u64 u] (.tuple #[.agg #[.int .u64 b, .int .i64 m, .int .u64 f], .int .i64 1]))
    (hI : Says 17 #[.agg #[.int .u64 b, .int .i64 m, .int .u64 f], .int .u64 u] (.bool false)) :
    Calls Tryd.prog 6 #[.agg #[.int .u64 b, .int .i64 m, .int .u64 f], .int .u64 u] w fun e w' => e = .returned (.bool true) ∧ Below w.heap.size w w' := by
  have HR := Lib.hid hR
  have HT := Lib.hid hT
  have HB := Lib.hid hB
  have HJ := Lib.hid hJ
  have HK := Lib.hid hK
  have HG := Lib.hid hG
  have HI := Lib.hid hI
  have HL := Lib.hid hl
  have hid0 := Lib.hid (Below.refl w.heap.size w)
  clear hl hR hT hB hJ hK hG hI
  go_enter Tryd.func6, Tryd.ntmps6
  go_wp2_with fail
  refine (atlaslaw04_awake.calls true _ (HL.out.alloc _) rfl).mono ?_
  rintro e w1 ⟨rfl, hb⟩
  have hid1 := Lib.hid (below_then (below_alloc hid0.out _) (below_alloc hid0.out _).size hb)
  have P1 := Lib.hid ((Own3.new w (.int .u64 b) (.int .i64 m) (.int .u64 f) 24).below hb)
  clear hb hid0 
  have Pq0 := P1.out.c0
  have Pr0 := fun o => (P1.out.alloc o).c0
  have Pq1 := P1.out.c1
  have Pr1 := fun o => (P1.out.alloc o).c1
  have Pq2 := P1.out.c2
  have Pr2 := fun o => (P1.out.alloc o).c2
  go_wp2_with fail
  clear Pq0 Pr0 Pq1 Pr1 Pq2 Pr2
  refine (HR.out _ (HL.out.below hid1.out)).mono ?_
  rintro e w2 ⟨rfl, hb⟩
  have hid2 := Lib.hid (below_then hid1.out hid1.out.size hb)
  have P2 := Lib.hid (P1.out.below hb)
  clear hb hid1 P1
  have Pq0 := P2.out.c0
  have Pr0 := fun o => (P2.out.alloc o).c0
  have Pq1 := P2.out.c1
  have Pr1 := fun o => (P2.out.alloc o).c1
  have Pq2 := P2.out.c2
  have Pr2 := fun o => (P2.out.alloc o).c2
  go_wp2_with fail
  clear Pq0 Pr0 Pq1 Pr1 Pq2 Pr2
  refine (HT.out _ (HL.out.below hid2.out)).mono ?_
  rintro e w3 ⟨rfl, hb⟩
  have hid3 := Lib.hid (below_then hid2.out hid2.out.size hb)
  have P3 := Lib.hid (P2.out.below hb)
  clear hb hid2 P2
  have Pq0 := P3.out.c0
  have Pr0 := fun o => (P3.out.alloc o).c0
  have Pq1 := P3.out.c1
  have Pr1 := fun o => (P3.out.alloc o).c1
  have Pq2 := P3.out.c2
  have Pr2 := fun o => (P3.out.alloc o).c2
  go_wp2_with fail
  clear Pq0 Pr0 Pq1 Pr1 Pq2 Pr2
  refine (HB.out _ ((HL.out.below hid3.out).alloc _)).mono ?_
  rintro e w4 ⟨rfl, hb⟩
  have hid4 := Lib.hid (below_then (below_alloc hid3.out _) (below_alloc hid3.out _).size hb)
  have P4 := Lib.hid ((P3.out.alloc _).below hb)
  have A4 := Lib.hid ((Own3.new w3 (.int .u64 b) (.int .i64 m) (.int .u64 f1) 24).below hb)
  clear hb hid3 P3
  have Pq0 := P4.out.c0
  have Pr0 := fun o => (P4.out.alloc o).c0
  have Pq1 := P4.out.c1
  have Pr1 := fun o => (P4.out.alloc o).c1
  have Pq2 := P4.out.c2
  have Pr2 := fun o => (P4.out.alloc o).c2
  have Aq0 := A4.out.c0
  have Ar0 := fun o => (A4.out.alloc o).c0
  have Aq1 := A4.out.c1
  have Ar1 := fun o => (A4.out.alloc o).c1
  have Aq2 := A4.out.c2
  have Ar2 := fun o => (A4.out.alloc o).c2
  go_wp2_with fail
  clear Pq0 Pr0 Pq1 Pr1 Pq2 Pr2 Aq0 Ar0 Aq1 Ar1 Aq2 Ar2
  refine (HJ.out _ ((HL.out.below hid4.out).alloc _)).mono ?_
  rintro e w5 ⟨rfl, hb⟩
  have hid5 := Lib.hid (below_then (below_alloc hid4.out _) (below_alloc hid4.out _).size hb)
  have P5 := Lib.hid ((P4.out.alloc _).below hb)
  have A5 := Lib.hid ((A4.out.alloc _).below hb)
  have B5 := Lib.hid ((Own3.new w4 (.int .u64 b) (.int .i64 m) (.int .u64 f) 24).below hb)
  clear hb hid4 P4 A4
  have Pq0 := P5.out.c0
  have Pr0 := fun o => (P5.out.alloc o).c0
  have Pq1 := P5.out.c1
  have Pr1 := fun o => (P5.out.alloc o).c1
  have Pq2 := P5.out.c2
  have Pr2 := fun o => (P5.out.alloc o).c2
  have Aq0 := A5.out.c0
  have Ar0 := fun o => (A5.out.alloc o).c0
  have Aq1 := A5.out.c1
  have Ar1 := fun o => (A5.out.alloc o).c1
  have Aq2 := A5.out.c2
  have Ar2 := fun o => (A5.out.alloc o).c2
  have Bq0 := B5.out.c0
  have Br0 := fun o => (B5.out.alloc o).c0
  have Bq1 := B5.out.c1
  have Br1 := fun o => (B5.out.alloc o).c1
  have Bq2 := B5.out.c2
  have Br2 := fun o => (B5.out.alloc o).c2
  go_wp2_with fail
  clear Pq0 Pr0 Pq1 Pr1 Pq2 Pr2 Aq0 Ar0 Aq1 Ar1 Aq2 Ar2 Bq0 Br0 Bq1 Br1 Bq2 Br2
  refine (HK.out _ (HL.out.below hid5.out)).mono ?_
  rintro e w6 ⟨rfl, hb⟩
  have hid6 := Lib.hid (below_then hid5.out hid5.out.size hb)
  have P6 := Lib.hid (P5.out.below hb)
  have A6 := Lib.hid (A5.out.below hb)
  have B6 := Lib.hid (B5.out.below hb)
  clear hb hid5 P5 A5 B5
  have Pq0 := P6.out.c0
  have Pr0 := fun o => (P6.out.alloc o).c0
  have Pq1 := P6.out.c1
  have Pr1 := fun o => (P6.out.alloc o).c1
  have Pq2 := P6.out.c2
  have Pr2 := fun o => (P6.out.alloc o).c2
  have Aq0 := A6.out.c0
  have Ar0 := fun o => (A6.out.alloc o).c0
  have Aq1 := A6.out.c1
  have Ar1 := fun o => (A6.out.alloc o).c1
  have Aq2 := A6.out.c2
  have Ar2 := fun o => (A6.out.alloc o).c2
  have Bq0 := B6.out.c0
  have Br0 := fun o => (B6.out.alloc o).c0
  have Bq1 := B6.out.c1
  have Br1 := fun o => (B6.out.alloc o).c1
  have Bq2 := B6.out.c2
  have Br2 := fun o => (B6.out.alloc o).c2
  go_wp2_with fail
  clear Pq0 Pr0 Pq1 Pr1 Pq2 Pr2 Aq0 Ar0 Aq1 Ar1 Aq2 Ar2 Bq0 Br0 Bq1 Br1 Bq2 Br2
  refine (HG.out _ (HL.out.below hid6.out)).mono ?_
  rintro e w7 ⟨rfl, hb⟩
  have hid7 := Lib.hid (below_then hid6.out hid6.out.size hb)
  have P7 := Lib.hid (P6.out.below hb)
  have A7 := Lib.hid (A6.out.below hb)
  have B7 := Lib.hid (B6.out.below hb)
  clear hb hid6 P6 A6 B6
  have Pq0 := P7.out.c0
  have Pr0 := fun o => (P7.out.alloc o).c0
  have Pq1 := P7.out.c1
  have Pr1 := fun o => (P7.out.alloc o).c1
  have Pq2 := P7.out.c2
  have Pr2 := fun o => (P7.out.alloc o).c2
  have Aq0 := A7.out.c0
  have Ar0 := fun o => (A7.out.alloc o).c0
  have Aq1 := A7.out.c1
  have Ar1 := fun o => (A7.out.alloc o).c1
  have Aq2 := A7.out.c2
  have Ar2 := fun o => (A7.out.alloc o).c2
  have Bq0 := B7.out.c0
  have Br0 := fun o => (B7.out.alloc o).c0
  have Bq1 := B7.out.c1
  have Br1 := fun o => (B7.out.alloc o).c1
  have Bq2 := B7.out.c2
  have Br2 := fun o => (B7.out.alloc o).c2
  go_wp2_with fail
  clear Pq0 Pr0 Pq1 Pr1 Pq2 Pr2 Aq0 Ar0 Aq1 Ar1 Aq2 Ar2 Bq0 Br0 Bq1 Br1 Bq2 Br2
  refine (HI.out _ ((HL.out.below hid7.out).alloc _)).mono ?_
  rintro e w8 ⟨rfl, hb⟩
  have hid8 := Lib.hid (below_then (below_alloc hid7.out _) (below_alloc hid7.out _).size hb)
  have P8 := Lib.hid ((P7.out.alloc _).below hb)
  have A8 := Lib.hid ((A7.out.alloc _).below hb)
  have B8 := Lib.hid ((B7.out.alloc _).below hb)
  have C8 := Lib.hid ((Own3.new w7 (.int .u64 b) (.int .i64 m) (.int .u64 f) 24).below hb)
  clear hb hid7 P7 A7 B7
  have Pq0 := P8.out.c0
  have Pr0 := fun o => (P8.out.alloc o).c0
  have Pq1 := P8.out.c1
  have Pr1 := fun o => (P8.out.alloc o).c1
  have Pq2 := P8.out.c2
  have Pr2 := fun o => (P8.out.alloc o).c2
  have Aq0 := A8.out.c0
  have Ar0 := fun o => (A8.out.alloc o).c0
  have Aq1 := A8.out.c1
  have Ar1 := fun o => (A8.out.alloc o).c1
  have Aq2 := A8.out.c2
  have Ar2 := fun o => (A8.out.alloc o).c2
  have Bq0 := B8.out.c0
  have Br0 := fun o => (B8.out.alloc o).c0
  have Bq1 := B8.out.c1
  have Br1 := fun o => (B8.out.alloc o).c1
  have Bq2 := B8.out.c2
  have Br2 := fun o => (B8.out.alloc o).c2
  have Cq0 := C8.out.c0
  have Cr0 := fun o => (C8.out.alloc o).c0
  have Cq1 := C8.out.c1
  have Cr1 := fun o => (C8.out.alloc o).c1
  have Cq2 := C8.out.c2
  have Cr2 := fun o => (C8.out.alloc o).c2
  go_wp2_with fail
  go_ret
  exact ⟨rfl, hid8.out⟩
set_option maxRecDepth 100000 in
set_option maxHeartbeats 4000000 in
theorem walk_110 (b m f u f1 x f2 y c f3 : Int) (w : World) (hl : Ld w)
    (hR : Says 10 #[.agg #[.int .u64 b, .int .i64 m, .int .u64 f]] (.bool true))
    (hT : Says 11 #[.agg #[.int .u64 b, .int .i64 m, .int .u64 f]] (.tuple #[.agg #[.int .u64 b, .int .i64 m, .int .u64 f1], .int .u64 x, .int .i64 0]))
    (hB : Says 13 #[.agg #[.int .u64 b, .int .i64 m, .int .u64 f1], .int .u64 x] (.tuple #[.agg #[.int .u64 b, .int .i64 m, .int .u64 f], .int .i64 0]))
    (hJ : Says 17 #[.agg #[.int .u64 b, .int .i64 m, .int .u64 f1], .int .u64 x] (.bool true))
    (hK : Says 17 #[.agg #[.int .u64 b, .int .i64 m, .int .u64 f], .int .u64 x] (.bool false))
    (hG : Says 13 #[.agg #[.int .u64 b, .int .i64 m, .int .u64 f], .int .u64 u] (.tuple #[.agg #[.int .u64 b, .int .i64 m, .int .u64 f2], .int .i64 0]))
    (hD : Says 11 #[.agg #[.int .u64 b, .int .i64 m, .int .u64 f2]] (.tuple #[.agg #[.int .u64 b, .int .i64 m, .int .u64 f3], .int .u64 y, .int .i64 0]))
    (hM : Says 15 #[.agg #[.int .u64 b, .int .i64 m, .int .u64 f2]] (.int .i64 (c + 1)))
    (hN : Says 15 #[.agg #[.int .u64 b, .int .i64 m, .int .u64 f]] (.int .i64 c))
    (hw : IntKind.i64.wrap (c + 1) = c + 1) (hle : y ≤ u) (hyu : (y != u) = true) :
    Calls Tryd.prog 6 #[.agg #[.int .u64 b, .int .i64 m, .int .u64 f], .int .u64 u] w fun e w' => e = .returned (.bool true) ∧ Below w.heap.size w w' := by
  have HR := Lib.hid hR
  have HT := Lib.hid hT
  have HB := Lib.hid hB
  have HJ := Lib.hid hJ
  have HK := Lib.hid hK
  have HG := Lib.hid hG
  have HD := Lib.hid hD
  have HM := Lib.hid hM
  have HN := Lib.hid hN
  have HL := Lib.hid hl
  have hid0 := Lib.hid (Below.refl w.heap.size w)
  clear hl hR hT hB hJ hK hG hD hM hN
  have hle0 : decide (y ≤ u) = true := decide_eq_true hle
  clear hle
  go_enter Tryd.func6, Tryd.ntmps6
  go_wp2_with fail
  refine (atlaslaw04_awake.calls true _ (HL.out.alloc _) rfl).mono ?_
  rintro e w1 ⟨rfl, hb⟩
  have hid1 := Lib.hid (below_then (below_alloc hid0.out _) (below_alloc hid0.out _).size hb)
  have P1 := Lib.hid ((Own3.new w (.int .u64 b) (.int .i64 m) (.int .u64 f) 24).below hb)
  clear hb hid0 
  have Pq0 := P1.out.c0
  have Pr0 := fun o => (P1.out.alloc o).c0
  have Pq1 := P1.out.c1
  have Pr1 := fun o => (P1.out.alloc o).c1
  have Pq2 := P1.out.c2
  have Pr2 := fun o => (P1.out.alloc o).c2
  go_wp2_with fail
  clear Pq0 Pr0 Pq1 Pr1 Pq2 Pr2
  refine (HR.out _ (HL.out.below hid1.out)).mono ?_
  rintro e w2 ⟨rfl, hb⟩
  have hid2 := Lib.hid (below_then hid1.out hid1.out.size hb)
  have P2 := Lib.hid (P1.out.below hb)
  clear hb hid1 P1
  have Pq0 := P2.out.c0
  have Pr0 := fun o => (P2.out.alloc o).c0
  have Pq1 := P2.out.c1
  have Pr1 := fun o => (P2.out.alloc o).c1
  have Pq2 := P2.out.c2
  have Pr2 := fun o => (P2.out.alloc o).c2
  go_wp2_with fail
  clear Pq0 Pr0 Pq1 Pr1 Pq2 Pr2
  refine (HT.out _ (HL.out.below hid2.out)).mono ?_
  rintro e w3 ⟨rfl, hb⟩
  have hid3 := Lib.hid (below_then hid2.out hid2.out.size hb)
  have P3 := Lib.hid (P2.out.below hb)
  clear hb hid2 P2
  have Pq0 := P3.out.c0
  have Pr0 := fun o => (P3.out.alloc o).c0
  have Pq1 := P3.out.c1
  have Pr1 := fun o => (P3.out.alloc o).c1
  have Pq2 := P3.out.c2
  have Pr2 := fun o => (P3.out.alloc o).c2
  go_wp2_with fail
  clear Pq0 Pr0 Pq1 Pr1 Pq2 Pr2
  refine (HB.out _ ((HL.out.below hid3.out).alloc _)).mono ?_
  rintro e w4 ⟨rfl, hb⟩
  have hid4 := Lib.hid (below_then (below_alloc hid3.out _) (below_alloc hid3.out _).size hb)
  have P4 := Lib.hid ((P3.out.alloc _).below hb)
  have A4 := Lib.hid ((Own3.new w3 (.int .u64 b) (.int .i64 m) (.int .u64 f1) 24).below hb)
  clear hb hid3 P3
  have Pq0 := P4.out.c0
  have Pr0 := fun o => (P4.out.alloc o).c0
  have Pq1 := P4.out.c1
  have Pr1 := fun o => (P4.out.alloc o).c1
  have Pq2 := P4.out.c2
  have Pr2 := fun o => (P4.out.alloc o).c2
  have Aq0 := A4.out.c0
  have Ar0 := fun o => (A4.out.alloc o).c0
  have Aq1 := A4.out.c1
  have Ar1 := fun o => (A4.out.alloc o).c1
  have Aq2 := A4.out.c2
  have Ar2 := fun o => (A4.out.alloc o).c2
  go_wp2_with fail
  clear Pq0 Pr0 Pq1 Pr1 Pq2 Pr2 Aq0 Ar0 Aq1 Ar1 Aq2 Ar2
  refine (HJ.out _ ((HL.out.below hid4.out).alloc _)).mono ?_
  rintro e w5 ⟨rfl, hb⟩
  have hid5 := Lib.hid (below_then (below_alloc hid4.out _) (below_alloc hid4.out _).size hb)
  have P5 := Lib.hid ((P4.out.alloc _).below hb)
  have A5 := Lib.hid ((A4.out.alloc _).below hb)
  have B5 := Lib.hid ((Own3.new w4 (.int .u64 b) (.int .i64 m) (.int .u64 f) 24).below hb)
  clear hb hid4 P4 A4
  have Pq0 := P5.out.c0
  have Pr0 := fun o => (P5.out.alloc o).c0
  have Pq1 := P5.out.c1
  have Pr1 := fun o => (P5.out.alloc o).c1
  have Pq2 := P5.out.c2
  have Pr2 := fun o => (P5.out.alloc o).c2
  have Aq0 := A5.out.c0
  have Ar0 := fun o => (A5.out.alloc o).c0
  have Aq1 := A5.out.c1
  have Ar1 := fun o => (A5.out.alloc o).c1
  have Aq2 := A5.out.c2
  have Ar2 := fun o => (A5.out.alloc o).c2
  have Bq0 := B5.out.c0
  have Br0 := fun o => (B5.out.alloc o).c0
  have Bq1 := B5.out.c1
  have Br1 := fun o => (B5.out.alloc o).c1
  have Bq2 := B5.out.c2
  have Br2 := fun o => (B5.out.alloc o).c2
  go_wp2_with fail
  clear Pq0 Pr0 Pq1 Pr1 Pq2 Pr2 Aq0 Ar0 Aq1 Ar1 Aq2 Ar2 Bq0 Br0 Bq1 Br1 Bq2 Br2
  refine (HK.out _ (HL.out.below hid5.out)).mono ?_
  rintro e w6 ⟨rfl, hb⟩
  have hid6 := Lib.hid (below_then hid5.out hid5.out.size hb)
  have P6 := Lib.hid (P5.out.below hb)
  have A6 := Lib.hid (A5.out.below hb)
  have B6 := Lib.hid (B5.out.below hb)
  clear hb hid5 P5 A5 B5
  have Pq0 := P6.out.c0
  have Pr0 := fun o => (P6.out.alloc o).c0
  have Pq1 := P6.out.c1
  have Pr1 := fun o => (P6.out.alloc o).c1
  have Pq2 := P6.out.c2
  have Pr2 := fun o => (P6.out.alloc o).c2
  have Aq0 := A6.out.c0
  have Ar0 := fun o => (A6.out.alloc o).c0
  have Aq1 := A6.out.c1
  have Ar1 := fun o => (A6.out.alloc o).c1
  have Aq2 := A6.out.c2
  have Ar2 := fun o => (A6.out.alloc o).c2
  have Bq0 := B6.out.c0
  have Br0 := fun o => (B6.out.alloc o).c0
  have Bq1 := B6.out.c1
  have Br1 := fun o => (B6.out.alloc o).c1
  have Bq2 := B6.out.c2
  have Br2 := fun o => (B6.out.alloc o).c2
  go_wp2_with fail
  clear Pq0 Pr0 Pq1 Pr1 Pq2 Pr2 Aq0 Ar0 Aq1 Ar1 Aq2 Ar2 Bq0 Br0 Bq1 Br1 Bq2 Br2
  refine (HG.out _ (HL.out.below hid6.out)).mono ?_
  rintro e w7 ⟨rfl, hb⟩
  have hid7 := Lib.hid (below_then hid6.out hid6.out.size hb)
  have P7 := Lib.hid (P6.out.below hb)
  have A7 := Lib.hid (A6.out.below hb)
  have B7 := Lib.hid (B6.out.below hb)
  clear hb hid6 P6 A6 B6
  have Pq0 := P7.out.c0
  have Pr0 := fun o => (P7.out.alloc o).c0
  have Pq1 := P7.out.c1
  have Pr1 := fun o => (P7.out.alloc o).c1
  have Pq2 := P7.out.c2
  have Pr2 := fun o => (P7.out.alloc o).c2
  have Aq0 := A7.out.c0
  have Ar0 := fun o => (A7.out.alloc o).c0
  have Aq1 := A7.out.c1
  have Ar1 := fun o => (A7.out.alloc o).c1
  have Aq2 := A7.out.c2
  have Ar2 := fun o => (A7.out.alloc o).c2
  have Bq0 := B7.out.c0
  have Br0 := fun o => (B7.out.alloc o).c0
  have Bq1 := B7.out.c1
  have Br1 := fun o => (B7.out.alloc o).c1
  have Bq2 := B7.out.c2
  have Br2 := fun o => (B7.out.alloc o).c2
  go_wp2_with fail
  clear Pq0 Pr0 Pq1 Pr1 Pq2 Pr2 Aq0 Ar0 Aq1 Ar1 Aq2 Ar2 Bq0 Br0 Bq1 Br1 Bq2 Br2
  refine (HD.out _ ((HL.out.below hid7.out).alloc _)).mono ?_
  rintro e w8 ⟨rfl, hb⟩
  have hid8 := Lib.hid (below_then (below_alloc hid7.out _) (below_alloc hid7.out _).size hb)
  have P8 := Lib.hid ((P7.out.alloc _).below hb)
  have A8 := Lib.hid ((A7.out.alloc _).below hb)
  have B8 := Lib.hid ((B7.out.alloc _).below hb)
  have C8 := Lib.hid ((Own3.new w7 (.int .u64 b) (.int .i64 m) (.int .u64 f2) 24).below hb)
  clear hb hid7 P7 A7 B7
  have Pq0 := P8.out.c0
  have Pr0 := fun o => (P8.out.alloc o).c0
  have Pq1 := P8.out.c1
  have Pr1 := fun o => (P8.out.alloc o).c1
  have Pq2 := P8.out.c2
  have Pr2 := fun o => (P8.out.alloc o).c2
  have Aq0 := A8.out.c0
  have Ar0 := fun o => (A8.out.alloc o).c0
  have Aq1 := A8.out.c1
  have Ar1 := fun o => (A8.out.alloc o).c1
  have Aq2 := A8.out.c2
  have Ar2 := fun o => (A8.out.alloc o).c2
  have Bq0 := B8.out.c0
  have Br0 := fun o => (B8.out.alloc o).c0
  have Bq1 := B8.out.c1
  have Br1 := fun o => (B8.out.alloc o).c1
  have Bq2 := B8.out.c2
  have Br2 := fun o => (B8.out.alloc o).c2
  have Cq0 := C8.out.c0
  have Cr0 := fun o => (C8.out.alloc o).c0
  have Cq1 := C8.out.c1
  have Cr1 := fun o => (C8.out.alloc o).c1
  have Cq2 := C8.out.c2
  have Cr2 := fun o => (C8.out.alloc o).c2
  go_wp2_with fail
  clear Pq0 Pr0 Pq1 Pr1 Pq2 Pr2 Aq0 Ar0 Aq1 Ar1 Aq2 Ar2 Bq0 Br0 Bq1 Br1 Bq2 Br2 Cq0 Cr0 Cq1 Cr1 Cq2 Cr2
  have hBA := Lib.hid (fun o => (below_alloc hid8.out o).drew)
  have hLA := Lib.hid (fun o => HL.out.below (hBA.out o))
  have hPA := Lib.hid (fun o => (P8.out.alloc o).below (Below.refl _ _).drew)
  have hCA := Lib.hid (fun o => (C8.out.alloc o).below (Below.refl _ _).drew)
  clear hid8 P8 A8 B8 C8
  refine wp_region_held_drew (S := (fun w' => Ld w' ∧ Below w.heap.size w w' ∧ w'.cell? ⟨w.heap.size, 0, none⟩ = some (.int .u64 b) ∧ w'.cell? ⟨w.heap.size, 1, none⟩ = some (.int .i64 m) ∧ w'.cell? ⟨w.heap.size, 2, none⟩ = some (.int .u64 f) ∧ w'.cell? ⟨w7.heap.size, 0, none⟩ = some (.int .u64 b) ∧ w'.cell? ⟨w7.heap.size, 1, none⟩ = some (.int .i64 m) ∧ w'.cell? ⟨w7.heap.size, 2, none⟩ = some (.int .u64 f2))) (by kernel_rfl) (⟨hLA.out _, hBA.out _, (hPA.out _).c0, (hPA.out _).c1, (hPA.out _).c2, (hCA.out _).c0, (hCA.out _).c1, (hCA.out _).c2⟩) (fun hHeld => ?_)
  refine Reg.take_yes (i := 0) (d := some 78) (v := ?v1) rfl rfl (by kernel_rfl) (by kernel_rfl) (by kernel_rfl) (fun _ _ _ h => h) (by rfl) ?y1 hHeld ?r1
  case y1 =>
    intro wS hS
    go_simp
    all_goals with_reducible rfl
  try simp only [Act.put, List.setIfInBounds_toArray, List.set_cons_zero, List.set_cons_succ]
  refine Reg.take_yes (i := 1) (d := some 79) (v := ?v2) rfl rfl (by kernel_rfl) (by kernel_rfl) (by kernel_rfl) (fun _ _ _ h => h) (by rfl) ?y2 hHeld ?r2
  case y2 =>
    intro wS hS
    go_simp
    all_goals with_reducible rfl
  try simp only [Act.put, List.setIfInBounds_toArray, List.set_cons_zero, List.set_cons_succ]
  refine Reg.take_yes (i := 2) (d := some 80) (v := ?v3) rfl rfl (by kernel_rfl) (by kernel_rfl) (by kernel_rfl) (fun _ _ _ h => h) (by rfl) ?y3 hHeld ?r3
  case y3 =>
    intro wS hS
    go_simp
    all_goals with_reducible rfl
  try simp only [Act.put, List.setIfInBounds_toArray, List.set_cons_zero, List.set_cons_succ]
  refine Reg.take_yes (i := 3) (d := some 81) (v := ?v4) rfl rfl (by kernel_rfl) (by kernel_rfl) (by kernel_rfl) (fun _ _ _ h => h) (by rfl) ?y4 hHeld ?r4
  case y4 =>
    intro wS hS
    go_simp
    all_goals with_reducible rfl
  try simp only [Act.put, List.setIfInBounds_toArray, List.set_cons_zero, List.set_cons_succ]
  refine Reg.take_yes (i := 4) (d := some 82) (v := ?v5) rfl rfl (by kernel_rfl) (by kernel_rfl) (by kernel_rfl) (fun _ _ _ h => h) (by rfl) ?y5 hHeld ?r5
  case y5 =>
    intro wS hS
    go_simp
    all_goals with_reducible rfl
  try simp only [Act.put, List.setIfInBounds_toArray, List.set_cons_zero, List.set_cons_succ]
  refine Reg.take_yes (i := 5) (d := some 83) (v := ?v6) rfl rfl (by kernel_rfl) (by kernel_rfl) (by kernel_rfl) (fun _ _ _ h => h) (by rfl) ?y6 hHeld ?r6
  case y6 =>
    intro wS hS
    go_simp
    all_goals with_reducible rfl
  try simp only [Act.put, List.setIfInBounds_toArray, List.set_cons_zero, List.set_cons_succ]
  refine Reg.take_yes (i := 6) (d := some 84) (v := ?v7) rfl rfl (by kernel_rfl) (by kernel_rfl) (by kernel_rfl) (fun _ _ _ h => h) (by rfl) ?y7 hHeld ?r7
  case y7 =>
    intro wS hS
    go_simp
    all_goals with_reducible rfl
  try simp only [Act.put, List.setIfInBounds_toArray, List.set_cons_zero, List.set_cons_succ]
  refine Reg.take_yes (i := 7) (d := some 85) (v := ?v8) rfl rfl (by kernel_rfl) (by kernel_rfl) (by kernel_rfl) (fun _ _ _ h => h) (by rfl) ?y8 hHeld ?r8
  case y8 =>
    intro wS hS
    go_simp
    all_goals with_reducible rfl
  try simp only [Act.put, List.setIfInBounds_toArray, List.set_cons_zero, List.set_cons_succ]
  refine Reg.take_yes (i := 8) (d := some 86) (v := ?v9) rfl rfl (by kernel_rfl) (by kernel_rfl) (by kernel_rfl) (fun _ _ _ h => h) (by rfl) ?y9 hHeld ?r9
  case y9 =>
    intro wS hS
    go_simp
    all_goals with_reducible rfl
  try simp only [Act.put, List.setIfInBounds_toArray, List.set_cons_zero, List.set_cons_succ]
  refine Reg.take_yes (i := 9) (d := some 87) (v := ?v10) rfl rfl (by kernel_rfl) (by kernel_rfl) (by kernel_rfl) (fun _ _ _ h => h) (by rfl) ?y10 hHeld ?r10
  case y10 =>
    intro wS hS
    go_simp
    all_goals with_reducible rfl
  try simp only [Act.put, List.setIfInBounds_toArray, List.set_cons_zero, List.set_cons_succ]
  refine Reg.take_yes (i := 10) (d := some 88) (v := ?v11) rfl rfl (by kernel_rfl) (by kernel_rfl) (by kernel_rfl) (fun _ _ _ h => h) (by rfl) ?y11 hHeld ?r11
  case y11 =>
    intro wS hS
    go_simp
    all_goals with_reducible rfl
  try simp only [Act.put, List.setIfInBounds_toArray, List.set_cons_zero, List.set_cons_succ]
  refine Reg.take_yes (i := 11) (d := some 89) (v := ?v12) rfl rfl (by kernel_rfl) (by kernel_rfl) (by kernel_rfl) (fun _ _ _ h => h) (by rfl) ?y12 hHeld ?r12
  case y12 =>
    intro wS hS
    go_simp
    all_goals with_reducible rfl
  try simp only [Act.put, List.setIfInBounds_toArray, List.set_cons_zero, List.set_cons_succ]
  refine Reg.take_no (i := 12) (d := some 90) rfl rfl (by kernel_rfl) (by kernel_rfl) (by kernel_rfl) (fun _ _ _ h => h) (by rfl) hHeld ?_
  try simp only [Act.put, List.setIfInBounds_toArray, List.set_cons_zero, List.set_cons_succ]
  refine Reg.take_no (i := 13) (d := some 91) rfl rfl (by kernel_rfl) (by kernel_rfl) (by kernel_rfl) (fun _ _ _ h => h) (by rfl) hHeld ?_
  try simp only [Act.put, List.setIfInBounds_toArray, List.set_cons_zero, List.set_cons_succ]
  refine Reg.take_no (i := 14) (d := some 92) rfl rfl (by kernel_rfl) (by kernel_rfl) (by kernel_rfl) (fun _ _ _ h => h) (by rfl) hHeld ?_
  try simp only [Act.put, List.setIfInBounds_toArray, List.set_cons_zero, List.set_cons_succ]
  refine Reg.take_yes (i := 15) (d := some 93) (v := ?v13) rfl rfl (by kernel_rfl) (by kernel_rfl) (by kernel_rfl) (fun _ _ _ h => h) (by rfl) ?y13 hHeld ?r13
  case y13 =>
    intro wS hS
    go_simp
    all_goals with_reducible rfl
  try simp only [Act.put, List.setIfInBounds_toArray, List.set_cons_zero, List.set_cons_succ]
  refine Reg.take_yes (i := 16) (d := some 94) (v := ?v14) rfl rfl (by kernel_rfl) (by kernel_rfl) (by kernel_rfl) (fun _ _ _ h => h) (by rfl) ?y14 hHeld ?r14
  case y14 =>
    intro wS hS
    go_simp
    all_goals with_reducible rfl
  try simp only [Act.put, List.setIfInBounds_toArray, List.set_cons_zero, List.set_cons_succ]
  refine Reg.take_yes (i := 17) (d := some 95) (v := ?v15) rfl rfl (by kernel_rfl) (by kernel_rfl) (by kernel_rfl) (fun _ _ _ h => h) (by rfl) ?y15 hHeld ?r15
  case y15 =>
    intro wS hS
    go_simp
    all_goals with_reducible rfl
  try simp only [Act.put, List.setIfInBounds_toArray, List.set_cons_zero, List.set_cons_succ]
  refine Reg.take_yes (i := 18) (d := some 96) (v := ?v16) rfl rfl (by kernel_rfl) (by kernel_rfl) (by kernel_rfl) (fun _ _ _ h => h) (by rfl) ?y16 hHeld ?r16
  case y16 =>
    intro wS hS
    obtain ⟨sL, sB, s0, s1, s2, s3, s4, s5⟩ := hS
    go_simp
    all_goals with_reducible rfl
  try simp only [Act.put, List.setIfInBounds_toArray, List.set_cons_zero, List.set_cons_succ]
  refine Reg.take_yes (i := 20) (d := some 98) (v := ?v17) rfl rfl (by kernel_rfl) (by kernel_rfl) (by kernel_rfl) (fun _ _ _ h => h) (by rfl) ?y17 hHeld ?r17
  case y17 =>
    intro wS hS
    obtain ⟨sL, sB, s0, s1, s2, s3, s4, s5⟩ := hS
    go_simp
    all_goals with_reducible rfl
  try simp only [Act.put, List.setIfInBounds_toArray, List.set_cons_zero, List.set_cons_succ]
  refine wpAnyH_ready (rs := [19]) (by kernel_rfl) (by simp) ?_
  refine Reg.cons_yes rfl (by rfl) (fun K hK => ?_) ?_
  · go_simp
    have hH := hHeld
    obtain ⟨sL, sB, s0, s1, s2, s3, s4, s5⟩ := hH
    refine Calls.mono (HM.out _ sL) ?_
    rintro e wA ⟨rfl, hb⟩
    refine hK.out _ _ (⟨sL.below hb, below_then sB sB.size hb, cell_later hb s0, cell_later hb s1, cell_later hb s2, cell_later hb s3, cell_later hb s4, cell_later hb s5⟩) (fun hHeld => ?_)
    clear hK K
    try simp only [Act.put, List.setIfInBounds_toArray, List.set_cons_zero, List.set_cons_succ]
    refine wpAnyH_ready (rs := [21]) (by kernel_rfl) (by simp) ?_
    refine Reg.cons_yes rfl (by rfl) (fun K hK => ?_) ?_
    · go_simp
      have hH := hHeld
      obtain ⟨sL, sB, s0, s1, s2, s3, s4, s5⟩ := hH
      refine Calls.mono (HN.out _ sL) ?_
      rintro e wA ⟨rfl, hb⟩
      refine hK.out _ _ (⟨sL.below hb, below_then sB sB.size hb, cell_later hb s0, cell_later hb s1, cell_later hb s2, cell_later hb s3, cell_later hb s4, cell_later hb s5⟩) (fun hHeld => ?_)
      clear hK K
      try simp only [Act.put, List.setIfInBounds_toArray, List.set_cons_zero, List.set_cons_succ]
      refine Reg.take_yes (i := 22) (d := some 100) (v := ?v18) rfl rfl (by kernel_rfl) (by kernel_rfl) (by kernel_rfl) (fun _ _ _ h => h) (by rfl) ?y18 hHeld ?r18
      case y18 =>
        intro wS hS
        go_simp
        all_goals with_reducible rfl
      try simp only [Act.put, List.setIfInBounds_toArray, List.set_cons_zero, List.set_cons_succ]
      refine Reg.take_yes (i := 23) (d := some 101) (v := ?v19) rfl rfl (by kernel_rfl) (by kernel_rfl) (by kernel_rfl) (fun _ _ _ h => h) (by rfl) ?y19 hHeld ?r19
      case y19 =>
        intro wS hS
        go_simp
        all_goals with_reducible rfl
      try simp only [Act.put, List.setIfInBounds_toArray, List.set_cons_zero, List.set_cons_succ]
      refine Reg.take_yes (i := 24) (d := some 102) (v := ?v20) rfl rfl (by kernel_rfl) (by kernel_rfl) (by kernel_rfl) (fun _ _ _ h => h) (by rfl) ?y20 hHeld ?r20
      case y20 =>
        intro wS hS
        go_simp
        all_goals with_reducible rfl
      try simp only [Act.put, List.setIfInBounds_toArray, List.set_cons_zero, List.set_cons_succ]
      refine Reg.take_yes (i := 25) (d := some 4) (v := ?v21) rfl rfl (by kernel_rfl) (by kernel_rfl) (by kernel_rfl) (fun _ _ _ h => h) (by rfl) ?y21 hHeld ?r21
      case y21 =>
        intro wS hS
        go_simp
        all_goals with_reducible rfl
      try simp only [Act.put, List.setIfInBounds_toArray, List.set_cons_zero, List.set_cons_succ]
      refine wpAnyH_done (by kernel_rfl) ?_ _
      obtain ⟨_, hB, _⟩ := hHeld
      go_wp2_with fail
      go_ret
      exact ⟨rfl, hB⟩
    exact AllReadyH.nil
  exact AllReadyH.nil
set_option maxRecDepth 100000 in
set_option maxHeartbeats 4000000 in
theorem walk_111 (b m f u f1 x f2 y c : Int) (w : World) (hl : Ld w)
    (hR : Says 10 #[.agg #[.int .u64 b, .int .i64 m, .int .u64 f]] (.bool true))
    (hT : Says 11 #[.agg #[.int .u64 b, .int .i64 m, .int .u64 f]] (.tuple #[.agg #[.int .u64 b, .int .i64 m, .int .u64 f1], .int .u64 x, .int .i64 0]))
    (hB : Says 13 #[.agg #[.int .u64 b, .int .i64 m, .int .u64 f1], .int .u64 x] (.tuple #[.agg #[.int .u64 b, .int .i64 m, .int .u64 f], .int .i64 0]))
    (hJ : Says 17 #[.agg #[.int .u64 b, .int .i64 m, .int .u64 f1], .int .u64 x] (.bool true))
    (hK : Says 17 #[.agg #[.int .u64 b, .int .i64 m, .int .u64 f], .int .u64 x] (.bool false))
    (hG : Says 13 #[.agg #[.int .u64 b, .int .i64 m, .int .u64 f], .int .u64 u] (.tuple #[.agg #[.int .u64 b, .int .i64 m, .int .u64 f2], .int .i64 0]))
    (hD : Says 11 #[.agg #[.int .u64 b, .int .i64 m, .int .u64 f2]] (.tuple #[.agg #[.int .u64 b, .int .i64 m, .int .u64 f], .int .u64 y, .int .i64 0]))
    (hM : Says 15 #[.agg #[.int .u64 b, .int .i64 m, .int .u64 f2]] (.int .i64 (c + 1)))
    (hN : Says 15 #[.agg #[.int .u64 b, .int .i64 m, .int .u64 f]] (.int .i64 c))
    (hw : IntKind.i64.wrap (c + 1) = c + 1) (hle : y ≤ u) (hyu : (y != u) = false) :
    Calls Tryd.prog 6 #[.agg #[.int .u64 b, .int .i64 m, .int .u64 f], .int .u64 u] w fun e w' => e = .returned (.bool true) ∧ Below w.heap.size w w' := by
  have HR := Lib.hid hR
  have HT := Lib.hid hT
  have HB := Lib.hid hB
  have HJ := Lib.hid hJ
  have HK := Lib.hid hK
  have HG := Lib.hid hG
  have HD := Lib.hid hD
  have HM := Lib.hid hM
  have HN := Lib.hid hN
  have HL := Lib.hid hl
  have hid0 := Lib.hid (Below.refl w.heap.size w)
  clear hl hR hT hB hJ hK hG hD hM hN
  have hle0 : decide (y ≤ u) = true := decide_eq_true hle
  clear hle
  go_enter Tryd.func6, Tryd.ntmps6
  go_wp2_with fail
  refine (atlaslaw04_awake.calls true _ (HL.out.alloc _) rfl).mono ?_
  rintro e w1 ⟨rfl, hb⟩
  have hid1 := Lib.hid (below_then (below_alloc hid0.out _) (below_alloc hid0.out _).size hb)
  have P1 := Lib.hid ((Own3.new w (.int .u64 b) (.int .i64 m) (.int .u64 f) 24).below hb)
  clear hb hid0 
  have Pq0 := P1.out.c0
  have Pr0 := fun o => (P1.out.alloc o).c0
  have Pq1 := P1.out.c1
  have Pr1 := fun o => (P1.out.alloc o).c1
  have Pq2 := P1.out.c2
  have Pr2 := fun o => (P1.out.alloc o).c2
  go_wp2_with fail
  clear Pq0 Pr0 Pq1 Pr1 Pq2 Pr2
  refine (HR.out _ (HL.out.below hid1.out)).mono ?_
  rintro e w2 ⟨rfl, hb⟩
  have hid2 := Lib.hid (below_then hid1.out hid1.out.size hb)
  have P2 := Lib.hid (P1.out.below hb)
  clear hb hid1 P1
  have Pq0 := P2.out.c0
  have Pr0 := fun o => (P2.out.alloc o).c0
  have Pq1 := P2.out.c1
  have Pr1 := fun o => (P2.out.alloc o).c1
  have Pq2 := P2.out.c2
  have Pr2 := fun o => (P2.out.alloc o).c2
  go_wp2_with fail
  clear Pq0 Pr0 Pq1 Pr1 Pq2 Pr2
  refine (HT.out _ (HL.out.below hid2.out)).mono ?_
  rintro e w3 ⟨rfl, hb⟩
  have hid3 := Lib.hid (below_then hid2.out hid2.out.size hb)
  have P3 := Lib.hid (P2.out.below hb)
  clear hb hid2 P2
  have Pq0 := P3.out.c0
  have Pr0 := fun o => (P3.out.alloc o).c0
  have Pq1 := P3.out.c1
  have Pr1 := fun o => (P3.out.alloc o).c1
  have Pq2 := P3.out.c2
  have Pr2 := fun o => (P3.out.alloc o).c2
  go_wp2_with fail
  clear Pq0 Pr0 Pq1 Pr1 Pq2 Pr2
  refine (HB.out _ ((HL.out.below hid3.out).alloc _)).mono ?_
  rintro e w4 ⟨rfl, hb⟩
  have hid4 := Lib.hid (below_then (below_alloc hid3.out _) (below_alloc hid3.out _).size hb)
  have P4 := Lib.hid ((P3.out.alloc _).below hb)
  have A4 := Lib.hid ((Own3.new w3 (.int .u64 b) (.int .i64 m) (.int .u64 f1) 24).below hb)
  clear hb hid3 P3
  have Pq0 := P4.out.c0
  have Pr0 := fun o => (P4.out.alloc o).c0
  have Pq1 := P4.out.c1
  have Pr1 := fun o => (P4.out.alloc o).c1
  have Pq2 := P4.out.c2
  have Pr2 := fun o => (P4.out.alloc o).c2
  have Aq0 := A4.out.c0
  have Ar0 := fun o => (A4.out.alloc o).c0
  have Aq1 := A4.out.c1
  have Ar1 := fun o => (A4.out.alloc o).c1
  have Aq2 := A4.out.c2
  have Ar2 := fun o => (A4.out.alloc o).c2
  go_wp2_with fail
  clear Pq0 Pr0 Pq1 Pr1 Pq2 Pr2 Aq0 Ar0 Aq1 Ar1 Aq2 Ar2
  refine (HJ.out _ ((HL.out.below hid4.out).alloc _)).mono ?_
  rintro e w5 ⟨rfl, hb⟩
  have hid5 := Lib.hid (below_then (below_alloc hid4.out _) (below_alloc hid4.out _).size hb)
  have P5 := Lib.hid ((P4.out.alloc _).below hb)
  have A5 := Lib.hid ((A4.out.alloc _).below hb)
  have B5 := Lib.hid ((Own3.new w4 (.int .u64 b) (.int .i64 m) (.int .u64 f) 24).below hb)
  clear hb hid4 P4 A4
  have Pq0 := P5.out.c0
  have Pr0 := fun o => (P5.out.alloc o).c0
  have Pq1 := P5.out.c1
  have Pr1 := fun o => (P5.out.alloc o).c1
  have Pq2 := P5.out.c2
  have Pr2 := fun o => (P5.out.alloc o).c2
  have Aq0 := A5.out.c0
  have Ar0 := fun o => (A5.out.alloc o).c0
  have Aq1 := A5.out.c1
  have Ar1 := fun o => (A5.out.alloc o).c1
  have Aq2 := A5.out.c2
  have Ar2 := fun o => (A5.out.alloc o).c2
  have Bq0 := B5.out.c0
  have Br0 := fun o => (B5.out.alloc o).c0
  have Bq1 := B5.out.c1
  have Br1 := fun o => (B5.out.alloc o).c1
  have Bq2 := B5.out.c2
  have Br2 := fun o => (B5.out.alloc o).c2
  go_wp2_with fail
  clear Pq0 Pr0 Pq1 Pr1 Pq2 Pr2 Aq0 Ar0 Aq1 Ar1 Aq2 Ar2 Bq0 Br0 Bq1 Br1 Bq2 Br2
  refine (HK.out _ (HL.out.below hid5.out)).mono ?_
  rintro e w6 ⟨rfl, hb⟩
  have hid6 := Lib.hid (below_then hid5.out hid5.out.size hb)
  have P6 := Lib.hid (P5.out.below hb)
  have A6 := Lib.hid (A5.out.below hb)
  have B6 := Lib.hid (B5.out.below hb)
  clear hb hid5 P5 A5 B5
  have Pq0 := P6.out.c0
  have Pr0 := fun o => (P6.out.alloc o).c0
  have Pq1 := P6.out.c1
  have Pr1 := fun o => (P6.out.alloc o).c1
  have Pq2 := P6.out.c2
  have Pr2 := fun o => (P6.out.alloc o).c2
  have Aq0 := A6.out.c0
  have Ar0 := fun o => (A6.out.alloc o).c0
  have Aq1 := A6.out.c1
  have Ar1 := fun o => (A6.out.alloc o).c1
  have Aq2 := A6.out.c2
  have Ar2 := fun o => (A6.out.alloc o).c2
  have Bq0 := B6.out.c0
  have Br0 := fun o => (B6.out.alloc o).c0
  have Bq1 := B6.out.c1
  have Br1 := fun o => (B6.out.alloc o).c1
  have Bq2 := B6.out.c2
  have Br2 := fun o => (B6.out.alloc o).c2
  go_wp2_with fail
  clear Pq0 Pr0 Pq1 Pr1 Pq2 Pr2 Aq0 Ar0 Aq1 Ar1 Aq2 Ar2 Bq0 Br0 Bq1 Br1 Bq2 Br2
  refine (HG.out _ (HL.out.below hid6.out)).mono ?_
  rintro e w7 ⟨rfl, hb⟩
  have hid7 := Lib.hid (below_then hid6.out hid6.out.size hb)
  have P7 := Lib.hid (P6.out.below hb)
  have A7 := Lib.hid (A6.out.below hb)
  have B7 := Lib.hid (B6.out.below hb)
  clear hb hid6 P6 A6 B6
  have Pq0 := P7.out.c0
  have Pr0 := fun o => (P7.out.alloc o).c0
  have Pq1 := P7.out.c1
  have Pr1 := fun o => (P7.out.alloc o).c1
  have Pq2 := P7.out.c2
  have Pr2 := fun o => (P7.out.alloc o).c2
  have Aq0 := A7.out.c0
  have Ar0 := fun o => (A7.out.alloc o).c0
  have Aq1 := A7.out.c1
  have Ar1 := fun o => (A7.out.alloc o).c1
  have Aq2 := A7.out.c2
  have Ar2 := fun o => (A7.out.alloc o).c2
  have Bq0 := B7.out.c0
  have Br0 := fun o => (B7.out.alloc o).c0
  have Bq1 := B7.out.c1
  have Br1 := fun o => (B7.out.alloc o).c1
  have Bq2 := B7.out.c2
  have Br2 := fun o => (B7.out.alloc o).c2
  go_wp2_with fail
  clear Pq0 Pr0 Pq1 Pr1 Pq2 Pr2 Aq0 Ar0 Aq1 Ar1 Aq2 Ar2 Bq0 Br0 Bq1 Br1 Bq2 Br2
  refine (HD.out _ ((HL.out.below hid7.out).alloc _)).mono ?_
  rintro e w8 ⟨rfl, hb⟩
  have hid8 := Lib.hid (below_then (below_alloc hid7.out _) (below_alloc hid7.out _).size hb)
  have P8 := Lib.hid ((P7.out.alloc _).below hb)
  have A8 := Lib.hid ((A7.out.alloc _).below hb)
  have B8 := Lib.hid ((B7.out.alloc _).below hb)
  have C8 := Lib.hid ((Own3.new w7 (.int .u64 b) (.int .i64 m) (.int .u64 f2) 24).below hb)
  clear hb hid7 P7 A7 B7
  have Pq0 := P8.out.c0
  have Pr0 := fun o => (P8.out.alloc o).c0
  have Pq1 := P8.out.c1
  have Pr1 := fun o => (P8.out.alloc o).c1
  have Pq2 := P8.out.c2
  have Pr2 := fun o => (P8.out.alloc o).c2
  have Aq0 := A8.out.c0
  have Ar0 := fun o => (A8.out.alloc o).c0
  have Aq1 := A8.out.c1
  have Ar1 := fun o => (A8.out.alloc o).c1
  have Aq2 := A8.out.c2
  have Ar2 := fun o => (A8.out.alloc o).c2
  have Bq0 := B8.out.c0
  have Br0 := fun o => (B8.out.alloc o).c0
  have Bq1 := B8.out.c1
  have Br1 := fun o => (B8.out.alloc o).c1
  have Bq2 := B8.out.c2
  have Br2 := fun o => (B8.out.alloc o).c2
  have Cq0 := C8.out.c0
  have Cr0 := fun o => (C8.out.alloc o).c0
  have Cq1 := C8.out.c1
  have Cr1 := fun o => (C8.out.alloc o).c1
  have Cq2 := C8.out.c2
  have Cr2 := fun o => (C8.out.alloc o).c2
  go_wp2_with fail
  clear Pq0 Pr0 Pq1 Pr1 Pq2 Pr2 Aq0 Ar0 Aq1 Ar1 Aq2 Ar2 Bq0 Br0 Bq1 Br1 Bq2 Br2 Cq0 Cr0 Cq1 Cr1 Cq2 Cr2
  have hBA := Lib.hid (fun o => (below_alloc hid8.out o).drew)
  have hLA := Lib.hid (fun o => HL.out.below (hBA.out o))
  have hPA := Lib.hid (fun o => (P8.out.alloc o).below (Below.refl _ _).drew)
  have hCA := Lib.hid (fun o => (C8.out.alloc o).below (Below.refl _ _).drew)
  have hDA := Lib.hid ((Own3.new w8 (.int .u64 b) (.int .i64 m) (.int .u64 f) 24).below (Below.refl _ _).drew)
  clear hid8 P8 A8 B8 C8
  refine wp_region_held_drew (S := (fun w' => Ld w' ∧ Below w.heap.size w w' ∧ w'.cell? ⟨w.heap.size, 0, none⟩ = some (.int .u64 b) ∧ w'.cell? ⟨w.heap.size, 1, none⟩ = some (.int .i64 m) ∧ w'.cell? ⟨w.heap.size, 2, none⟩ = some (.int .u64 f) ∧ w'.cell? ⟨w7.heap.size, 0, none⟩ = some (.int .u64 b) ∧ w'.cell? ⟨w7.heap.size, 1, none⟩ = some (.int .i64 m) ∧ w'.cell? ⟨w7.heap.size, 2, none⟩ = some (.int .u64 f2) ∧ w'.cell? ⟨w8.heap.size, 0, none⟩ = some (.int .u64 b) ∧ w'.cell? ⟨w8.heap.size, 1, none⟩ = some (.int .i64 m) ∧ w'.cell? ⟨w8.heap.size, 2, none⟩ = some (.int .u64 f))) (by kernel_rfl) (⟨hLA.out _, hBA.out _, (hPA.out _).c0, (hPA.out _).c1, (hPA.out _).c2, (hCA.out _).c0, (hCA.out _).c1, (hCA.out _).c2, (hDA.out).c0, (hDA.out).c1, (hDA.out).c2⟩) (fun hHeld => ?_)
  refine Reg.take_yes (i := 0) (d := some 78) (v := ?v1) rfl rfl (by kernel_rfl) (by kernel_rfl) (by kernel_rfl) (fun _ _ _ h => h) (by rfl) ?y1 hHeld ?r1
  case y1 =>
    intro wS hS
    go_simp
    all_goals with_reducible rfl
  try simp only [Act.put, List.setIfInBounds_toArray, List.set_cons_zero, List.set_cons_succ]
  refine Reg.take_yes (i := 1) (d := some 79) (v := ?v2) rfl rfl (by kernel_rfl) (by kernel_rfl) (by kernel_rfl) (fun _ _ _ h => h) (by rfl) ?y2 hHeld ?r2
  case y2 =>
    intro wS hS
    go_simp
    all_goals with_reducible rfl
  try simp only [Act.put, List.setIfInBounds_toArray, List.set_cons_zero, List.set_cons_succ]
  refine Reg.take_yes (i := 2) (d := some 80) (v := ?v3) rfl rfl (by kernel_rfl) (by kernel_rfl) (by kernel_rfl) (fun _ _ _ h => h) (by rfl) ?y3 hHeld ?r3
  case y3 =>
    intro wS hS
    go_simp
    all_goals with_reducible rfl
  try simp only [Act.put, List.setIfInBounds_toArray, List.set_cons_zero, List.set_cons_succ]
  refine Reg.take_yes (i := 3) (d := some 81) (v := ?v4) rfl rfl (by kernel_rfl) (by kernel_rfl) (by kernel_rfl) (fun _ _ _ h => h) (by rfl) ?y4 hHeld ?r4
  case y4 =>
    intro wS hS
    go_simp
    all_goals with_reducible rfl
  try simp only [Act.put, List.setIfInBounds_toArray, List.set_cons_zero, List.set_cons_succ]
  refine Reg.take_yes (i := 4) (d := some 82) (v := ?v5) rfl rfl (by kernel_rfl) (by kernel_rfl) (by kernel_rfl) (fun _ _ _ h => h) (by rfl) ?y5 hHeld ?r5
  case y5 =>
    intro wS hS
    go_simp
    all_goals with_reducible rfl
  try simp only [Act.put, List.setIfInBounds_toArray, List.set_cons_zero, List.set_cons_succ]
  refine Reg.take_yes (i := 5) (d := some 83) (v := ?v6) rfl rfl (by kernel_rfl) (by kernel_rfl) (by kernel_rfl) (fun _ _ _ h => h) (by rfl) ?y6 hHeld ?r6
  case y6 =>
    intro wS hS
    go_simp
    all_goals with_reducible rfl
  try simp only [Act.put, List.setIfInBounds_toArray, List.set_cons_zero, List.set_cons_succ]
  refine Reg.take_yes (i := 6) (d := some 84) (v := ?v7) rfl rfl (by kernel_rfl) (by kernel_rfl) (by kernel_rfl) (fun _ _ _ h => h) (by rfl) ?y7 hHeld ?r7
  case y7 =>
    intro wS hS
    go_simp
    all_goals with_reducible rfl
  try simp only [Act.put, List.setIfInBounds_toArray, List.set_cons_zero, List.set_cons_succ]
  refine Reg.take_yes (i := 7) (d := some 85) (v := ?v8) rfl rfl (by kernel_rfl) (by kernel_rfl) (by kernel_rfl) (fun _ _ _ h => h) (by rfl) ?y8 hHeld ?r8
  case y8 =>
    intro wS hS
    go_simp
    all_goals with_reducible rfl
  try simp only [Act.put, List.setIfInBounds_toArray, List.set_cons_zero, List.set_cons_succ]
  refine Reg.take_yes (i := 8) (d := some 86) (v := ?v9) rfl rfl (by kernel_rfl) (by kernel_rfl) (by kernel_rfl) (fun _ _ _ h => h) (by rfl) ?y9 hHeld ?r9
  case y9 =>
    intro wS hS
    go_simp
    all_goals with_reducible rfl
  try simp only [Act.put, List.setIfInBounds_toArray, List.set_cons_zero, List.set_cons_succ]
  refine Reg.take_yes (i := 9) (d := some 87) (v := ?v10) rfl rfl (by kernel_rfl) (by kernel_rfl) (by kernel_rfl) (fun _ _ _ h => h) (by rfl) ?y10 hHeld ?r10
  case y10 =>
    intro wS hS
    go_simp
    all_goals with_reducible rfl
  try simp only [Act.put, List.setIfInBounds_toArray, List.set_cons_zero, List.set_cons_succ]
  refine Reg.take_yes (i := 10) (d := some 88) (v := ?v11) rfl rfl (by kernel_rfl) (by kernel_rfl) (by kernel_rfl) (fun _ _ _ h => h) (by rfl) ?y11 hHeld ?r11
  case y11 =>
    intro wS hS
    go_simp
    all_goals with_reducible rfl
  try simp only [Act.put, List.setIfInBounds_toArray, List.set_cons_zero, List.set_cons_succ]
  refine Reg.take_yes (i := 11) (d := some 89) (v := ?v12) rfl rfl (by kernel_rfl) (by kernel_rfl) (by kernel_rfl) (fun _ _ _ h => h) (by rfl) ?y12 hHeld ?r12
  case y12 =>
    intro wS hS
    go_simp
    all_goals with_reducible rfl
  try simp only [Act.put, List.setIfInBounds_toArray, List.set_cons_zero, List.set_cons_succ]
  refine Reg.take_yes (i := 12) (d := some 90) (v := ?v13) rfl rfl (by kernel_rfl) (by kernel_rfl) (by kernel_rfl) (fun _ _ _ h => h) (by rfl) ?y13 hHeld ?r13
  case y13 =>
    intro wS hS
    obtain ⟨sL, sB, s0, s1, s2, s3, s4, s5, s6, s7, s8⟩ := hS
    go_simp
    all_goals with_reducible rfl
  try simp only [Act.put, List.setIfInBounds_toArray, List.set_cons_zero, List.set_cons_succ]
  refine Reg.take_yes (i := 13) (d := some 91) (v := ?v14) rfl rfl (by kernel_rfl) (by kernel_rfl) (by kernel_rfl) (fun _ _ _ h => h) (by rfl) ?y14 hHeld ?r14
  case y14 =>
    intro wS hS
    obtain ⟨sL, sB, s0, s1, s2, s3, s4, s5, s6, s7, s8⟩ := hS
    go_simp
    all_goals with_reducible rfl
  try simp only [Act.put, List.setIfInBounds_toArray, List.set_cons_zero, List.set_cons_succ]
  refine Reg.take_yes (i := 14) (d := some 92) (v := ?v15) rfl rfl (by kernel_rfl) (by kernel_rfl) (by kernel_rfl) (fun _ _ _ h => h) (by rfl) ?y15 hHeld ?r15
  case y15 =>
    intro wS hS
    go_simp
    all_goals with_reducible rfl
  try simp only [Act.put, List.setIfInBounds_toArray, List.set_cons_zero, List.set_cons_succ]
  refine Reg.take_yes (i := 15) (d := some 93) (v := ?v16) rfl rfl (by kernel_rfl) (by kernel_rfl) (by kernel_rfl) (fun _ _ _ h => h) (by rfl) ?y16 hHeld ?r16
  case y16 =>
    intro wS hS
    go_simp
    all_goals with_reducible rfl
  try simp only [Act.put, List.setIfInBounds_toArray, List.set_cons_zero, List.set_cons_succ]
  refine Reg.take_yes (i := 16) (d := some 94) (v := ?v17) rfl rfl (by kernel_rfl) (by kernel_rfl) (by kernel_rfl) (fun _ _ _ h => h) (by rfl) ?y17 hHeld ?r17
  case y17 =>
    intro wS hS
    go_simp
    all_goals with_reducible rfl
  try simp only [Act.put, List.setIfInBounds_toArray, List.set_cons_zero, List.set_cons_succ]
  refine Reg.take_yes (i := 17) (d := some 95) (v := ?v18) rfl rfl (by kernel_rfl) (by kernel_rfl) (by kernel_rfl) (fun _ _ _ h => h) (by rfl) ?y18 hHeld ?r18
  case y18 =>
    intro wS hS
    go_simp
    all_goals with_reducible rfl
  try simp only [Act.put, List.setIfInBounds_toArray, List.set_cons_zero, List.set_cons_succ]
  refine Reg.take_yes (i := 18) (d := some 96) (v := ?v19) rfl rfl (by kernel_rfl) (by kernel_rfl) (by kernel_rfl) (fun _ _ _ h => h) (by rfl) ?y19 hHeld ?r19
  case y19 =>
    intro wS hS
    obtain ⟨sL, sB, s0, s1, s2, s3, s4, s5, s6, s7, s8⟩ := hS
    go_simp
    all_goals with_reducible rfl
  try simp only [Act.put, List.setIfInBounds_toArray, List.set_cons_zero, List.set_cons_succ]
  refine Reg.take_yes (i := 20) (d := some 98) (v := ?v20) rfl rfl (by kernel_rfl) (by kernel_rfl) (by kernel_rfl) (fun _ _ _ h => h) (by rfl) ?y20 hHeld ?r20
  case y20 =>
    intro wS hS
    obtain ⟨sL, sB, s0, s1, s2, s3, s4, s5, s6, s7, s8⟩ := hS
    go_simp
    all_goals with_reducible rfl
  try simp only [Act.put, List.setIfInBounds_toArray, List.set_cons_zero, List.set_cons_succ]
  refine wpAnyH_ready (rs := [19]) (by kernel_rfl) (by simp) ?_
  refine Reg.cons_yes rfl (by rfl) (fun K hK => ?_) ?_
  · go_simp
    have hH := hHeld
    obtain ⟨sL, sB, s0, s1, s2, s3, s4, s5, s6, s7, s8⟩ := hH
    refine Calls.mono (HM.out _ sL) ?_
    rintro e wA ⟨rfl, hb⟩
    refine hK.out _ _ (⟨sL.below hb, below_then sB sB.size hb, cell_later hb s0, cell_later hb s1, cell_later hb s2, cell_later hb s3, cell_later hb s4, cell_later hb s5, cell_later hb s6, cell_later hb s7, cell_later hb s8⟩) (fun hHeld => ?_)
    clear hK K
    try simp only [Act.put, List.setIfInBounds_toArray, List.set_cons_zero, List.set_cons_succ]
    refine wpAnyH_ready (rs := [21]) (by kernel_rfl) (by simp) ?_
    refine Reg.cons_yes rfl (by rfl) (fun K hK => ?_) ?_
    · go_simp
      have hH := hHeld
      obtain ⟨sL, sB, s0, s1, s2, s3, s4, s5, s6, s7, s8⟩ := hH
      refine Calls.mono (HN.out _ sL) ?_
      rintro e wA ⟨rfl, hb⟩
      refine hK.out _ _ (⟨sL.below hb, below_then sB sB.size hb, cell_later hb s0, cell_later hb s1, cell_later hb s2, cell_later hb s3, cell_later hb s4, cell_later hb s5, cell_later hb s6, cell_later hb s7, cell_later hb s8⟩) (fun hHeld => ?_)
      clear hK K
      try simp only [Act.put, List.setIfInBounds_toArray, List.set_cons_zero, List.set_cons_succ]
      refine Reg.take_yes (i := 22) (d := some 100) (v := ?v21) rfl rfl (by kernel_rfl) (by kernel_rfl) (by kernel_rfl) (fun _ _ _ h => h) (by rfl) ?y21 hHeld ?r21
      case y21 =>
        intro wS hS
        go_simp
        all_goals with_reducible rfl
      try simp only [Act.put, List.setIfInBounds_toArray, List.set_cons_zero, List.set_cons_succ]
      refine Reg.take_yes (i := 23) (d := some 101) (v := ?v22) rfl rfl (by kernel_rfl) (by kernel_rfl) (by kernel_rfl) (fun _ _ _ h => h) (by rfl) ?y22 hHeld ?r22
      case y22 =>
        intro wS hS
        go_simp
        all_goals with_reducible rfl
      try simp only [Act.put, List.setIfInBounds_toArray, List.set_cons_zero, List.set_cons_succ]
      refine Reg.take_yes (i := 24) (d := some 102) (v := ?v23) rfl rfl (by kernel_rfl) (by kernel_rfl) (by kernel_rfl) (fun _ _ _ h => h) (by rfl) ?y23 hHeld ?r23
      case y23 =>
        intro wS hS
        go_simp
        all_goals with_reducible rfl
      try simp only [Act.put, List.setIfInBounds_toArray, List.set_cons_zero, List.set_cons_succ]
      refine Reg.take_yes (i := 25) (d := some 4) (v := ?v24) rfl rfl (by kernel_rfl) (by kernel_rfl) (by kernel_rfl) (fun _ _ _ h => h) (by rfl) ?y24 hHeld ?r24
      case y24 =>
        intro wS hS
        go_simp
        all_goals with_reducible rfl
      try simp only [Act.put, List.setIfInBounds_toArray, List.set_cons_zero, List.set_cons_succ]
      refine wpAnyH_done (by kernel_rfl) ?_ _
      obtain ⟨_, hB, _⟩ := hHeld
      go_wp2_with fail
      go_ret
      exact ⟨rfl, hB⟩
    exact AllReadyH.nil
  exact AllReadyH.nil
end
end Go.Proofs.YtojklokbdmelhaaDoor.SPoolBack
