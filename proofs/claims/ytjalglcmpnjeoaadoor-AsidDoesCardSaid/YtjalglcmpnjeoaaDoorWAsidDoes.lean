/- AsidDoes, the walk, over the contracts of what it calls. -/
import Derived.Test.YtjalglcmpnjeoaaDoorRAsidN
import Derived.Test.YtjalglcmpnjeoaaDoorReg
import Derived.WalkSpells
set_option linter.unusedVariables false
set_option linter.unusedSimpArgs false
namespace Go.Proofs.YtjalglcmpnjeoaaDoor.SAsidDoes
open Go.RowKit Go.Proofs.YtjalglcmpnjeoaaDoorW.PrintWords Go.Proofs.YtjalglcmpnjeoaaDoor.Bits Go.Proofs.YtjalglcmpnjeoaaDoor.SAsidAll
/-- What a call answers, and that it writes below nothing. -/
def Says (f : Nat) (xs : Array Value) (r : Value) : Prop := ∀ W, Ld W → Calls Tryd.prog f xs W fun e w' => e = .returned r ∧ Below W.heap.size W w'
section
attribute [local go_sem high] eqA24
set_option maxRecDepth 100000 in
set_option maxHeartbeats 4000000 in
theorem walk_yes_no (m f o u many xm xf xo  : Int) (w : World) (hl : Ld w) (h1 : 1 ≤ many) (h16 : many ≤ 16)
    (hx : Says 7 #[.int .i64 many] (.tuple #[.agg #[.int .i64 xm, .int .u64 xf, .int .u64 xo], .int .i64 0]))
    (hy : Says 8 #[.int .i64 many] (.agg #[.int .i64 xm, .int .u64 xf, .int .u64 xo]))
    (hr : Says 9 #[.agg #[.int .i64 m, .int .u64 f, .int .u64 o]] (.bool false))
    (hs : Says 10 #[.agg #[.int .i64 m, .int .u64 f, .int .u64 o]] (.bool false)) :
    Calls Tryd.prog 3 #[.agg #[.int .i64 m, .int .u64 f, .int .u64 o], .int .u64 u, .int .i64 many] w fun e w' => e = .returned (.bool true) ∧ Below w.heap.size w w' := by
  have HX := Lib.hid hx
  have HY := Lib.hid hy
  have HR := Lib.hid hr
  have HS := Lib.hid hs
  clear hx hy hr hs
  have HL := Lib.hid hl
  have hid0 := Lib.hid (Below.refl w.heap.size w)
  clear hl
  go_enter Tryd.func3, Tryd.ntmps3
  go_wp2_with fail
  refine (atlaslaw18_awake.calls true _ (HL.out.below (below_alloc hid0.out _)) rfl).mono ?_
  rintro e w1 ⟨rfl, hb⟩
  have hid1 := Lib.hid (below_then (below_alloc hid0.out _) (below_alloc hid0.out _).size hb)
  have P1 := Lib.hid ((Own3.new w (.int .i64 m) (.int .u64 f) (.int .u64 o) 24).below hb)
  clear hb hid0 
  have Pq0 := P1.out.c0
  have Pq1 := P1.out.c1
  have Pq2 := P1.out.c2
  go_wp2_with fail
  clear Pq0 Pq1 Pq2
  refine (HX.out _ (HL.out.below hid1.out)).mono ?_
  rintro e w2 ⟨rfl, hb⟩
  have hid2 := Lib.hid (below_then hid1.out hid1.out.size hb)
  have P2 := Lib.hid (P1.out.below hb)
  clear hb hid1 P1
  have Pq0 := P2.out.c0
  have Pq1 := P2.out.c1
  have Pq2 := P2.out.c2
  go_wp2_with fail
  clear Pq0 Pq1 Pq2
  have eBel1 := Lib.hid (fun o => (below_alloc hid2.out o).drew)
  have eLd1 := Lib.hid (fun o => HL.out.below (eBel1.out o))
  have ePBlk1 := Lib.hid (fun o => (P2.out.alloc o).below (Below.refl _ _).drew)
  have eXBlk1 := Lib.hid ((Own3.new w2 (.int .i64 xm) (.int .u64 xf) (.int .u64 xo) 24).below (Below.refl _ _).drew)
  clear hid2 P2
  refine Reg.cut (S := (fun w' => Ld w' ∧ Below w.heap.size w w' ∧ w'.cell? ⟨w.heap.size, 0, none⟩ = some (.int .i64 m) ∧ w'.cell? ⟨w.heap.size, 1, none⟩ = some (.int .u64 f) ∧ w'.cell? ⟨w.heap.size, 2, none⟩ = some (.int .u64 o) ∧ w'.cell? ⟨w2.heap.size, 0, none⟩ = some (.int .i64 xm) ∧ w'.cell? ⟨w2.heap.size, 1, none⟩ = some (.int .u64 xf) ∧ w'.cell? ⟨w2.heap.size, 2, none⟩ = some (.int .u64 xo) ∧ w.heap.size < w'.heap.size ∧ w2.heap.size < w'.heap.size)) (A := ?hA1) ?hreg1 ?hrest1
  case hreg1 =>
    refine wp_region_held_drew (S := (fun w' => Ld w' ∧ Below w.heap.size w w' ∧ w'.cell? ⟨w.heap.size, 0, none⟩ = some (.int .i64 m) ∧ w'.cell? ⟨w.heap.size, 1, none⟩ = some (.int .u64 f) ∧ w'.cell? ⟨w.heap.size, 2, none⟩ = some (.int .u64 o) ∧ w'.cell? ⟨w2.heap.size, 0, none⟩ = some (.int .i64 xm) ∧ w'.cell? ⟨w2.heap.size, 1, none⟩ = some (.int .u64 xf) ∧ w'.cell? ⟨w2.heap.size, 2, none⟩ = some (.int .u64 xo) ∧ w.heap.size < w'.heap.size ∧ w2.heap.size < w'.heap.size)) (by kernel_rfl) (⟨eLd1.out _, eBel1.out _, (ePBlk1.out _).c0, (ePBlk1.out _).c1, (ePBlk1.out _).c2, (eXBlk1.out).c0, (eXBlk1.out).c1, (eXBlk1.out).c2, (ePBlk1.out _).lt, (eXBlk1.out).lt⟩) (fun hHeld => ?_)
    refine Reg.take_yes (i := 0) (d := some 35) (v := ?v2) rfl rfl (by kernel_rfl) (by kernel_rfl) (by kernel_rfl) (fun _ _ _ h => by cases h.1) (by rfl) ?y2 hHeld ?r2
    case y2 =>
      intro wS hS
      go_simp
      all_goals with_reducible rfl
    try simp only [Act.put, List.setIfInBounds_toArray, List.set_cons_zero, List.set_cons_succ]
    refine Reg.take_yes (i := 1) (d := some 36) (v := ?v3) rfl rfl (by kernel_rfl) (by kernel_rfl) (by kernel_rfl) (fun _ _ _ h => by cases h.1) (by rfl) ?y3 hHeld ?r3
    case y3 =>
      intro wS hS
      go_simp
      all_goals with_reducible rfl
    try simp only [Act.put, List.setIfInBounds_toArray, List.set_cons_zero, List.set_cons_succ]
    refine Reg.take_yes (i := 2) (d := some 37) (v := ?v4) rfl rfl (by kernel_rfl) (by kernel_rfl) (by kernel_rfl) (fun _ _ _ h => by cases h.1) (by rfl) ?y4 hHeld ?r4
    case y4 =>
      intro wS hS
      go_simp
      all_goals with_reducible rfl
    try simp only [Act.put, List.setIfInBounds_toArray, List.set_cons_zero, List.set_cons_succ]
    refine Reg.take_yes (i := 3) (d := some 38) (v := ?v5) rfl rfl (by kernel_rfl) (by kernel_rfl) (by kernel_rfl) (fun _ _ _ h => by cases h.1) (by rfl) ?y5 hHeld ?r5
    case y5 =>
      intro wS hS
      go_simp
      all_goals with_reducible rfl
    try simp only [Act.put, List.setIfInBounds_toArray, List.set_cons_zero, List.set_cons_succ]
    refine Reg.take_yes (i := 4) (d := some 39) (v := ?v6) rfl rfl (by kernel_rfl) (by kernel_rfl) (by kernel_rfl) (fun _ _ _ h => by cases h.1) (by rfl) ?y6 hHeld ?r6
    case y6 =>
      intro wS hS
      go_simp
      all_goals with_reducible rfl
    try simp only [Act.put, List.setIfInBounds_toArray, List.set_cons_zero, List.set_cons_succ]
    refine Reg.take_yes (i := 5) (d := some 40) (v := ?v7) rfl rfl (by kernel_rfl) (by kernel_rfl) (by kernel_rfl) (fun _ _ _ h => by cases h.1) (by rfl) ?y7 hHeld ?r7
    case y7 =>
      intro wS hS
      go_simp
      all_goals with_reducible rfl
    try simp only [Act.put, List.setIfInBounds_toArray, List.set_cons_zero, List.set_cons_succ]
    refine Reg.take_yes (i := 6) (d := some 41) (v := ?v8) rfl rfl (by kernel_rfl) (by kernel_rfl) (by kernel_rfl) (fun _ _ _ h => by cases h.1) (by rfl) ?y8 hHeld ?r8
    case y8 =>
      intro wS hS
      go_simp
      all_goals with_reducible rfl
    try simp only [Act.put, List.setIfInBounds_toArray, List.set_cons_zero, List.set_cons_succ]
    refine Reg.take_yes (i := 7) (d := some 42) (v := ?v9) rfl rfl (by kernel_rfl) (by kernel_rfl) (by kernel_rfl) (fun _ _ _ h => by cases h.1) (by rfl) ?y9 hHeld ?r9
    case y9 =>
      intro wS hS
      obtain ⟨sL, sB, s0, s1, s2, s3, s4, s5, z0, z1⟩ := hS
      go_simp
      all_goals with_reducible rfl
    try simp only [Act.put, List.setIfInBounds_toArray, List.set_cons_zero, List.set_cons_succ]
    refine Reg.take_yes (i := 8) (d := some 43) (v := ?v10) rfl rfl (by kernel_rfl) (by kernel_rfl) (by kernel_rfl) (fun _ _ _ h => by cases h.1) (by rfl) ?y10 hHeld ?r10
    case y10 =>
      intro wS hS
      go_simp
      all_goals with_reducible rfl
    try simp only [Act.put, List.setIfInBounds_toArray, List.set_cons_zero, List.set_cons_succ]
    refine wpAnyH_ready (rs := [9]) (by kernel_rfl) (by simp) ?_
    refine Reg.cons_yes rfl (by rfl) (fun K hK => ?_) ?_
    · go_simp
      have hH := hHeld
      obtain ⟨sL, sB, s0, s1, s2, s3, s4, s5, z0, z1⟩ := hH
      refine Calls.mono (HY.out _ sL) ?_
      rintro e wA ⟨rfl, hb⟩
      refine hK.out _ _ (⟨sL.below hb, below_then sB sB.size hb, cell_later hb s0, cell_later hb s1, cell_later hb s2, cell_later hb s3, cell_later hb s4, cell_later hb s5, Nat.lt_of_lt_of_le z0 hb.size, Nat.lt_of_lt_of_le z1 hb.size⟩) (fun hHeld => ?_)
      clear hK K
      try simp only [Act.put, List.setIfInBounds_toArray, List.set_cons_zero, List.set_cons_succ]
      refine Reg.take_yes (i := 10) (d := some 45) (v := ?v11) rfl rfl (by kernel_rfl) (by kernel_rfl) (by kernel_rfl) (fun _ _ _ h => by cases h.1) (by rfl) ?y11 hHeld ?r11
      case y11 =>
        intro wS hS
        go_simp
        all_goals with_reducible rfl
      try simp only [Act.put, List.setIfInBounds_toArray, List.set_cons_zero, List.set_cons_succ]
      refine Reg.take_yes (i := 11) (d := some 46) (v := ?v12) rfl rfl (by kernel_rfl) (by kernel_rfl) (by kernel_rfl) (fun _ _ _ h => by cases h.1) (by rfl) ?y12 hHeld ?r12
      case y12 =>
        intro wS hS
        go_simp
        all_goals with_reducible rfl
      try simp only [Act.put, List.setIfInBounds_toArray, List.set_cons_zero, List.set_cons_succ]
      refine Reg.take_yes (i := 12) (d := some 47) (v := ?v13) rfl rfl (by kernel_rfl) (by kernel_rfl) (by kernel_rfl) (fun _ _ _ h => by cases h.1) (by rfl) ?y13 hHeld ?r13
      case y13 =>
        intro wS hS
        go_simp
        all_goals with_reducible rfl
      try simp only [Act.put, List.setIfInBounds_toArray, List.set_cons_zero, List.set_cons_succ]
      refine Reg.take_yes (i := 13) (d := some 48) (v := ?v14) rfl rfl (by kernel_rfl) (by kernel_rfl) (by kernel_rfl) (fun _ _ _ h => by cases h.1) (by rfl) ?y14 hHeld ?r14
      case y14 =>
        intro wS hS
        go_simp
        all_goals with_reducible rfl
      try simp only [Act.put, List.setIfInBounds_toArray, List.set_cons_zero, List.set_cons_succ]
      refine Reg.take_yes (i := 14) (d := some 49) (v := ?v15) rfl rfl (by kernel_rfl) (by kernel_rfl) (by kernel_rfl) (fun _ _ _ h => by cases h.1) (by rfl) ?y15 hHeld ?r15
      case y15 =>
        intro wS hS
        go_simp
        all_goals with_reducible rfl
      try simp only [Act.put, List.setIfInBounds_toArray, List.set_cons_zero, List.set_cons_succ]
      refine Reg.take_yes (i := 15) (d := some 50) (v := ?v16) rfl rfl (by kernel_rfl) (by kernel_rfl) (by kernel_rfl) (fun _ _ _ h => by cases h.1) (by rfl) ?y16 hHeld ?r16
      case y16 =>
        intro wS hS
        go_simp
        all_goals with_reducible rfl
      try simp only [Act.put, List.setIfInBounds_toArray, List.set_cons_zero, List.set_cons_succ]
      refine Reg.take_yes (i := 16) (d := some 51) (v := ?v17) rfl rfl (by kernel_rfl) (by kernel_rfl) (by kernel_rfl) (fun _ _ _ h => by cases h.1) (by rfl) ?y17 hHeld ?r17
      case y17 =>
        intro wS hS
        go_simp
        all_goals with_reducible rfl
      try simp only [Act.put, List.setIfInBounds_toArray, List.set_cons_zero, List.set_cons_succ]
      refine Reg.take_no (i := 17) (d := some 52) rfl rfl (by kernel_rfl) (by kernel_rfl) (by kernel_rfl) (fun _ _ _ h => by cases h.1) (by rfl) hHeld ?_
      try simp only [Act.put, List.setIfInBounds_toArray, List.set_cons_zero, List.set_cons_succ]
      refine Reg.take_no (i := 18) (d := some 53) rfl rfl (by kernel_rfl) (by kernel_rfl) (by kernel_rfl) (fun _ _ _ h => by cases h.1) (by rfl) hHeld ?_
      try simp only [Act.put, List.setIfInBounds_toArray, List.set_cons_zero, List.set_cons_succ]
      refine Reg.take_no (i := 19) (d := some 54) rfl rfl (by kernel_rfl) (by kernel_rfl) (by kernel_rfl) (fun _ _ _ h => by cases h.1) (by rfl) hHeld ?_
      try simp only [Act.put, List.setIfInBounds_toArray, List.set_cons_zero, List.set_cons_succ]
      refine Reg.take_no (i := 20) (d := some 55) rfl rfl (by kernel_rfl) (by kernel_rfl) (by kernel_rfl) (fun _ _ _ h => by cases h.1) (by rfl) hHeld ?_
      try simp only [Act.put, List.setIfInBounds_toArray, List.set_cons_zero, List.set_cons_succ]
      refine Reg.take_no (i := 21) (d := some 56) rfl rfl (by kernel_rfl) (by kernel_rfl) (by kernel_rfl) (fun _ _ _ h => by cases h.1) (by rfl) hHeld ?_
      try simp only [Act.put, List.setIfInBounds_toArray, List.set_cons_zero, List.set_cons_succ]
      refine Reg.take_no (i := 22) (d := some 57) rfl rfl (by kernel_rfl) (by kernel_rfl) (by kernel_rfl) (fun _ _ _ h => by cases h.1) (by rfl) hHeld ?_
      try simp only [Act.put, List.setIfInBounds_toArray, List.set_cons_zero, List.set_cons_succ]
      refine Reg.take_no (i := 23) (d := some 58) rfl rfl (by kernel_rfl) (by kernel_rfl) (by kernel_rfl) (fun _ _ _ h => by cases h.1) (by rfl) hHeld ?_
      try simp only [Act.put, List.setIfInBounds_toArray, List.set_cons_zero, List.set_cons_succ]
      refine Reg.take_yes (i := 24) (d := some 59) (v := ?v18) rfl rfl (by kernel_rfl) (by kernel_rfl) (by kernel_rfl) (fun _ _ _ h => by cases h.1) (by rfl) ?y18 hHeld ?r18
      case y18 =>
        intro wS hS
        go_simp
        all_goals with_reducible rfl
      try simp only [Act.put, List.setIfInBounds_toArray, List.set_cons_zero, List.set_cons_succ]
      refine Reg.take_yes (i := 25) (d := some 60) (v := ?v19) rfl rfl (by kernel_rfl) (by kernel_rfl) (by kernel_rfl) (fun _ _ _ h => by cases h.1) (by rfl) ?y19 hHeld ?r19
      case y19 =>
        intro wS hS
        go_simp
        all_goals with_reducible rfl
      try simp only [Act.put, List.setIfInBounds_toArray, List.set_cons_zero, List.set_cons_succ]
      refine wpAnyH_done (by kernel_rfl) ?_ _
      refine ⟨rfl, ?_, hHeld⟩
      with_reducible rfl
    exact AllReadyH.nil
  rintro w3 ⟨hL, hB, s0, s1, s2, s3, s4, s5, z0, z1⟩
  have hid3 := Lib.hid hB
  have P3 := Lib.hid (Own3.mk z0 s0 s1 s2)
  clear hL hB s0 s1 s2 s3 s4 s5 z0 z1
  clear eBel1 eLd1 ePBlk1 eXBlk1
  have Pq0 := P3.out.c0
  have Pq1 := P3.out.c1
  have Pq2 := P3.out.c2
  go_wp2_with fail
  clear Pq0 Pq1 Pq2
  have eBel2 := Lib.hid ((hid3.out).drew)
  have eLd2 := Lib.hid (HL.out.below (eBel2.out))
  have ePBlk2 := Lib.hid ((P3.out).below (Below.refl _ _).drew)
  clear hid3 P3
  refine Reg.cut (S := (fun w' => Ld w' ∧ Below w.heap.size w w' ∧ w'.cell? ⟨w.heap.size, 0, none⟩ = some (.int .i64 m) ∧ w'.cell? ⟨w.heap.size, 1, none⟩ = some (.int .u64 f) ∧ w'.cell? ⟨w.heap.size, 2, none⟩ = some (.int .u64 o) ∧ w.heap.size < w'.heap.size)) (A := ?hA20) ?hreg20 ?hrest20
  case hreg20 =>
    refine wp_region_held_drew (S := (fun w' => Ld w' ∧ Below w.heap.size w w' ∧ w'.cell? ⟨w.heap.size, 0, none⟩ = some (.int .i64 m) ∧ w'.cell? ⟨w.heap.size, 1, none⟩ = some (.int .u64 f) ∧ w'.cell? ⟨w.heap.size, 2, none⟩ = some (.int .u64 o) ∧ w.heap.size < w'.heap.size)) (by kernel_rfl) (⟨eLd2.out, eBel2.out, (ePBlk2.out).c0, (ePBlk2.out).c1, (ePBlk2.out).c2, (ePBlk2.out).lt⟩) (fun hHeld => ?_)
    refine Reg.take_yes (i := 0) (d := some 61) (v := ?v21) rfl rfl (by kernel_rfl) (by kernel_rfl) (by kernel_rfl) (fun _ _ _ h => by cases h.1) (by rfl) ?y21 hHeld ?r21
    case y21 =>
      intro wS hS
      obtain ⟨sL, sB, s0, s1, s2, z0⟩ := hS
      go_simp
      all_goals with_reducible rfl
    try simp only [Act.put, List.setIfInBounds_toArray, List.set_cons_zero, List.set_cons_succ]
    refine Reg.take_yes (i := 2) (d := some 63) (v := ?v22) rfl rfl (by kernel_rfl) (by kernel_rfl) (by kernel_rfl) (fun _ _ _ h => by cases h.1) (by rfl) ?y22 hHeld ?r22
    case y22 =>
      intro wS hS
      obtain ⟨sL, sB, s0, s1, s2, z0⟩ := hS
      go_simp
      all_goals with_reducible rfl
    try simp only [Act.put, List.setIfInBounds_toArray, List.set_cons_zero, List.set_cons_succ]
    refine wpAnyH_ready (rs := [1]) (by kernel_rfl) (by simp) ?_
    refine Reg.cons_yes rfl (by rfl) (fun K hK => ?_) ?_
    · go_simp
      have hH := hHeld
      obtain ⟨sL, sB, s0, s1, s2, z0⟩ := hH
      refine Calls.mono (HR.out _ sL) ?_
      rintro e wA ⟨rfl, hb⟩
      refine hK.out _ _ (⟨sL.below hb, below_then sB sB.size hb, cell_later hb s0, cell_later hb s1, cell_later hb s2, Nat.lt_of_lt_of_le z0 hb.size⟩) (fun hHeld => ?_)
      clear hK K
      try simp only [Act.put, List.setIfInBounds_toArray, List.set_cons_zero, List.set_cons_succ]
      refine wpAnyH_ready (rs := [3]) (by kernel_rfl) (by simp) ?_
      refine Reg.cons_yes rfl (by rfl) (fun K hK => ?_) ?_
      · go_simp
        have hH := hHeld
        obtain ⟨sL, sB, s0, s1, s2, z0⟩ := hH
        refine Calls.mono (HS.out _ sL) ?_
        rintro e wA ⟨rfl, hb⟩
        refine hK.out _ _ (⟨sL.below hb, below_then sB sB.size hb, cell_later hb s0, cell_later hb s1, cell_later hb s2, Nat.lt_of_lt_of_le z0 hb.size⟩) (fun hHeld => ?_)
        clear hK K
        try simp only [Act.put, List.setIfInBounds_toArray, List.set_cons_zero, List.set_cons_succ]
        refine Reg.take_yes (i := 4) (d := some 65) (v := ?v23) rfl rfl (by kernel_rfl) (by kernel_rfl) (by kernel_rfl) (fun _ _ _ h => by cases h.1) (by rfl) ?y23 hHeld ?r23
        case y23 =>
          intro wS hS
          go_simp
          all_goals with_reducible rfl
        try simp only [Act.put, List.setIfInBounds_toArray, List.set_cons_zero, List.set_cons_succ]
        refine Reg.take_yes (i := 5) (d := some 66) (v := ?v24) rfl rfl (by kernel_rfl) (by kernel_rfl) (by kernel_rfl) (fun _ _ _ h => by cases h.1) (by rfl) ?y24 hHeld ?r24
        case y24 =>
          intro wS hS
          go_simp
          all_goals with_reducible rfl
        try simp only [Act.put, List.setIfInBounds_toArray, List.set_cons_zero, List.set_cons_succ]
        refine Reg.take_yes (i := 6) (d := some 67) (v := ?v25) rfl rfl (by kernel_rfl) (by kernel_rfl) (by kernel_rfl) (fun _ _ _ h => by cases h.1) (by rfl) ?y25 hHeld ?r25
        case y25 =>
          intro wS hS
          obtain ⟨sL, sB, s0, s1, s2, z0⟩ := hS
          go_simp
          all_goals with_reducible rfl
        try simp only [Act.put, List.setIfInBounds_toArray, List.set_cons_zero, List.set_cons_succ]
        refine wpAnyH_ready (rs := [7]) (by kernel_rfl) (by simp) ?_
        refine Reg.cons_yes rfl (by rfl) (fun K hK => ?_) ?_
        · go_simp
          have hH := hHeld
          obtain ⟨sL, sB, s0, s1, s2, z0⟩ := hH
          refine Calls.mono (HS.out _ sL) ?_
          rintro e wA ⟨rfl, hb⟩
          refine hK.out _ _ (⟨sL.below hb, below_then sB sB.size hb, cell_later hb s0, cell_later hb s1, cell_later hb s2, Nat.lt_of_lt_of_le z0 hb.size⟩) (fun hHeld => ?_)
          clear hK K
          try simp only [Act.put, List.setIfInBounds_toArray, List.set_cons_zero, List.set_cons_succ]
          refine Reg.take_yes (i := 8) (d := some 69) (v := ?v26) rfl rfl (by kernel_rfl) (by kernel_rfl) (by kernel_rfl) (fun _ _ _ h => by cases h.1) (by rfl) ?y26 hHeld ?r26
          case y26 =>
            intro wS hS
            go_simp
            all_goals with_reducible rfl
          try simp only [Act.put, List.setIfInBounds_toArray, List.set_cons_zero, List.set_cons_succ]
          refine Reg.take_yes (i := 9) (d := some 70) (v := ?v27) rfl rfl (by kernel_rfl) (by kernel_rfl) (by kernel_rfl) (fun _ _ _ h => by cases h.1) (by rfl) ?y27 hHeld ?r27
          case y27 =>
            intro wS hS
            go_simp
            all_goals with_reducible rfl
          try simp only [Act.put, List.setIfInBounds_toArray, List.set_cons_zero, List.set_cons_succ]
          refine wpAnyH_done (by kernel_rfl) ?_ _
          refine ⟨rfl, ?_, hHeld⟩
          with_reducible rfl
        exact AllReadyH.nil
      exact AllReadyH.nil
    exact AllReadyH.nil
  rintro w4 ⟨hL, hB, s0, s1, s2, z0⟩
  have hid4 := Lib.hid hB
  have P4 := Lib.hid (Own3.mk z0 s0 s1 s2)
  clear hL hB s0 s1 s2 z0
  clear eBel2 eLd2 ePBlk2
  have Pq0 := P4.out.c0
  have Pq1 := P4.out.c1
  have Pq2 := P4.out.c2
  go_wp2_with fail
  clear Pq0 Pq1 Pq2
  have eBel3 := Lib.hid ((hid4.out).drew)
  have eLd3 := Lib.hid (HL.out.below (eBel3.out))
  have ePBlk3 := Lib.hid ((P4.out).below (Below.refl _ _).drew)
  clear hid4 P4
  refine Reg.cut (S := (fun w' => Ld w' ∧ Below w.heap.size w w' ∧ w'.cell? ⟨w.heap.size, 0, none⟩ = some (.int .i64 m) ∧ w'.cell? ⟨w.heap.size, 1, none⟩ = some (.int .u64 f) ∧ w'.cell? ⟨w.heap.size, 2, none⟩ = some (.int .u64 o) ∧ w.heap.size < w'.heap.size)) (A := ?hA28) ?hreg28 ?hrest28
  case hreg28 =>
    refine wp_region_held_drew (S := (fun w' => Ld w' ∧ Below w.heap.size w w' ∧ w'.cell? ⟨w.heap.size, 0, none⟩ = some (.int .i64 m) ∧ w'.cell? ⟨w.heap.size, 1, none⟩ = some (.int .u64 f) ∧ w'.cell? ⟨w.heap.size, 2, none⟩ = some (.int .u64 o) ∧ w.heap.size < w'.heap.size)) (by kernel_rfl) (⟨eLd3.out, eBel3.out, (ePBlk3.out).c0, (ePBlk3.out).c1, (ePBlk3.out).c2, (ePBlk3.out).lt⟩) (fun hHeld => ?_)
    refine Reg.take_yes (i := 0) (d := some 71) (v := ?v29) rfl rfl (by kernel_rfl) (by kernel_rfl) (by kernel_rfl) (fun _ _ _ h => by cases h.1) (by rfl) ?y29 hHeld ?r29
    case y29 =>
      intro wS hS
      obtain ⟨sL, sB, s0, s1, s2, z0⟩ := hS
      go_simp
      all_goals with_reducible rfl
    try simp only [Act.put, List.setIfInBounds_toArray, List.set_cons_zero, List.set_cons_succ]
    refine Reg.take_yes (i := 2) (d := some 73) (v := ?v30) rfl rfl (by kernel_rfl) (by kernel_rfl) (by kernel_rfl) (fun _ _ _ h => by cases h.1) (by rfl) ?y30 hHeld ?r30
    case y30 =>
      intro wS hS
      obtain ⟨sL, sB, s0, s1, s2, z0⟩ := hS
      go_simp
      all_goals with_reducible rfl
    try simp only [Act.put, List.setIfInBounds_toArray, List.set_cons_zero, List.set_cons_succ]
    refine wpAnyH_ready (rs := [1]) (by kernel_rfl) (by simp) ?_
    refine Reg.cons_yes rfl (by rfl) (fun K hK => ?_) ?_
    · go_simp
      have hH := hHeld
      obtain ⟨sL, sB, s0, s1, s2, z0⟩ := hH
      refine Calls.mono (HR.out _ sL) ?_
      rintro e wA ⟨rfl, hb⟩
      refine hK.out _ _ (⟨sL.below hb, below_then sB sB.size hb, cell_later hb s0, cell_later hb s1, cell_later hb s2, Nat.lt_of_lt_of_le z0 hb.size⟩) (fun hHeld => ?_)
      clear hK K
      try simp only [Act.put, List.setIfInBounds_toArray, List.set_cons_zero, List.set_cons_succ]
      refine wpAnyH_ready (rs := [3]) (by kernel_rfl) (by simp) ?_
      refine Reg.cons_yes rfl (by rfl) (fun K hK => ?_) ?_
      · go_simp
        have hH := hHeld
        obtain ⟨sL, sB, s0, s1, s2, z0⟩ := hH
        refine Calls.mono (HS.out _ sL) ?_
        rintro e wA ⟨rfl, hb⟩
        refine hK.out _ _ (⟨sL.below hb, below_then sB sB.size hb, cell_later hb s0, cell_later hb s1, cell_later hb s2, Nat.lt_of_lt_of_le z0 hb.size⟩) (fun hHeld => ?_)
        clear hK K
        try simp only [Act.put, List.setIfInBounds_toArray, List.set_cons_zero, List.set_cons_succ]
        refine Reg.take_yes (i := 4) (d := some 75) (v := ?v31) rfl rfl (by kernel_rfl) (by kernel_rfl) (by kernel_rfl) (fun _ _ _ h => by cases h.1) (by rfl) ?y31 hHeld ?r31
        case y31 =>
          intro wS hS
          go_simp
          all_goals with_reducible rfl
        try simp only [Act.put, List.setIfInBounds_toArray, List.set_cons_zero, List.set_cons_succ]
        refine Reg.take_yes (i := 5) (d := some 6) (v := ?v32) rfl rfl (by kernel_rfl) (by kernel_rfl) (by kernel_rfl) (fun _ _ _ h => by cases h.1) (by rfl) ?y32 hHeld ?r32
        case y32 =>
          intro wS hS
          go_simp
          all_goals with_reducible rfl
        try simp only [Act.put, List.setIfInBounds_toArray, List.set_cons_zero, List.set_cons_succ]
        refine wpAnyH_done (by kernel_rfl) ?_ _
        refine ⟨rfl, ?_, hHeld⟩
        with_reducible rfl
      exact AllReadyH.nil
    exact AllReadyH.nil
  rintro w5 ⟨hL, hB, s0, s1, s2, z0⟩
  have hid5 := Lib.hid hB
  have P5 := Lib.hid (Own3.mk z0 s0 s1 s2)
  clear hL hB s0 s1 s2 z0
  clear eBel3 eLd3 ePBlk3
  have Pq0 := P5.out.c0
  have Pq1 := P5.out.c1
  have Pq2 := P5.out.c2
  go_wp2_with fail
  go_ret
  exact ⟨rfl, hid5.out⟩
set_option maxRecDepth 100000 in
set_option maxHeartbeats 4000000 in
theorem walk_yes_yes (m f o u many xm xf xo t0 t1 t2 x er g0 g1 g2 g c : Int) (was : Bool) (w : World) (hl : Ld w) (h1 : 1 ≤ many) (h16 : many ≤ 16)
    (hx : Says 7 #[.int .i64 many] (.tuple #[.agg #[.int .i64 xm, .int .u64 xf, .int .u64 xo], .int .i64 0]))
    (hy : Says 8 #[.int .i64 many] (.agg #[.int .i64 xm, .int .u64 xf, .int .u64 xo]))
    (hr : Says 9 #[.agg #[.int .i64 m, .int .u64 f, .int .u64 o]] (.bool true))
    (hs : Says 10 #[.agg #[.int .i64 m, .int .u64 f, .int .u64 o]] (.bool true))
    (ht : Says 11 #[.agg #[.int .i64 m, .int .u64 f, .int .u64 o]] (.tuple #[.agg #[.int .i64 t0, .int .u64 t1, .int .u64 t2], .int .u64 x, .bool was, .int .i64 er]))
    (hu : Says 12 #[.agg #[.int .i64 m, .int .u64 f, .int .u64 o]] (.tuple #[.agg #[.int .i64 t0, .int .u64 t1, .int .u64 t2], .int .u64 x, .bool was, .int .i64 er]))
    (hg : Says 13 #[.agg #[.int .i64 m, .int .u64 f, .int .u64 o], .int .u64 u] (.tuple #[.agg #[.int .i64 g0, .int .u64 g1, .int .u64 g2], .int .i64 g]))
    (hh : Says 14 #[.agg #[.int .i64 m, .int .u64 f, .int .u64 o], .int .u64 u] (.tuple #[.agg #[.int .i64 g0, .int .u64 g1, .int .u64 g2], .int .i64 g]))
    (hm : Says 15 #[.agg #[.int .i64 m, .int .u64 f, .int .u64 o]] (.int .i64 c))
    (hn : Says 16 #[.agg #[.int .i64 m, .int .u64 f, .int .u64 o]] (.int .i64 c)) :
    Calls Tryd.prog 3 #[.agg #[.int .i64 m, .int .u64 f, .int .u64 o], .int .u64 u, .int .i64 many] w fun e w' => e = .returned (.bool true) ∧ Below w.heap.size w w' := by
  have HX := Lib.hid hx
  have HY := Lib.hid hy
  have HR := Lib.hid hr
  have HS := Lib.hid hs
  have HT := Lib.hid ht
  have HU := Lib.hid hu
  have HG := Lib.hid hg
  have HH := Lib.hid hh
  have HM := Lib.hid hm
  have HN := Lib.hid hn
  clear hx hy hr hs ht hu hg hh hm hn
  have HL := Lib.hid hl
  have hid0 := Lib.hid (Below.refl w.heap.size w)
  clear hl
  go_enter Tryd.func3, Tryd.ntmps3
  go_wp2_with fail
  refine (atlaslaw18_awake.calls true _ (HL.out.below (below_alloc hid0.out _)) rfl).mono ?_
  rintro e w1 ⟨rfl, hb⟩
  have hid1 := Lib.hid (below_then (below_alloc hid0.out _) (below_alloc hid0.out _).size hb)
  have P1 := Lib.hid ((Own3.new w (.int .i64 m) (.int .u64 f) (.int .u64 o) 24).below hb)
  clear hb hid0 
  have Pq0 := P1.out.c0
  have Pq1 := P1.out.c1
  have Pq2 := P1.out.c2
  go_wp2_with fail
  clear Pq0 Pq1 Pq2
  refine (HX.out _ (HL.out.below hid1.out)).mono ?_
  rintro e w2 ⟨rfl, hb⟩
  have hid2 := Lib.hid (below_then hid1.out hid1.out.size hb)
  have P2 := Lib.hid (P1.out.below hb)
  clear hb hid1 P1
  have Pq0 := P2.out.c0
  have Pq1 := P2.out.c1
  have Pq2 := P2.out.c2
  go_wp2_with fail
  clear Pq0 Pq1 Pq2
  have eBel1 := Lib.hid (fun o => (below_alloc hid2.out o).drew)
  have eLd1 := Lib.hid (fun o => HL.out.below (eBel1.out o))
  have ePBlk1 := Lib.hid (fun o => (P2.out.alloc o).below (Below.refl _ _).drew)
  have eXBlk1 := Lib.hid ((Own3.new w2 (.int .i64 xm) (.int .u64 xf) (.int .u64 xo) 24).below (Below.refl _ _).drew)
  clear hid2 P2
  refine Reg.cut (S := (fun w' => Ld w' ∧ Below w.heap.size w w' ∧ w'.cell? ⟨w.heap.size, 0, none⟩ = some (.int .i64 m) ∧ w'.cell? ⟨w.heap.size, 1, none⟩ = some (.int .u64 f) ∧ w'.cell? ⟨w.heap.size, 2, none⟩ = some (.int .u64 o) ∧ w'.cell? ⟨w2.heap.size, 0, none⟩ = some (.int .i64 xm) ∧ w'.cell? ⟨w2.heap.size, 1, none⟩ = some (.int .u64 xf) ∧ w'.cell? ⟨w2.heap.size, 2, none⟩ = some (.int .u64 xo) ∧ w.heap.size < w'.heap.size ∧ w2.heap.size < w'.heap.size)) (A := ?hA33) ?hreg33 ?hrest33
  case hreg33 =>
    refine wp_region_held_drew (S := (fun w' => Ld w' ∧ Below w.heap.size w w' ∧ w'.cell? ⟨w.heap.size, 0, none⟩ = some (.int .i64 m) ∧ w'.cell? ⟨w.heap.size, 1, none⟩ = some (.int .u64 f) ∧ w'.cell? ⟨w.heap.size, 2, none⟩ = some (.int .u64 o) ∧ w'.cell? ⟨w2.heap.size, 0, none⟩ = some (.int .i64 xm) ∧ w'.cell? ⟨w2.heap.size, 1, none⟩ = some (.int .u64 xf) ∧ w'.cell? ⟨w2.heap.size, 2, none⟩ = some (.int .u64 xo) ∧ w.heap.size < w'.heap.size ∧ w2.heap.size < w'.heap.size)) (by kernel_rfl) (⟨eLd1.out _, eBel1.out _, (ePBlk1.out _).c0, (ePBlk1.out _).c1, (ePBlk1.out _).c2, (eXBlk1.out).c0, (eXBlk1.out).c1, (eXBlk1.out).c2, (ePBlk1.out _).lt, (eXBlk1.out).lt⟩) (fun hHeld => ?_)
    refine Reg.take_yes (i := 0) (d := some 35) (v := ?v34) rfl rfl (by kernel_rfl) (by kernel_rfl) (by kernel_rfl) (fun _ _ _ h => by cases h.1) (by rfl) ?y34 hHeld ?r34
    case y34 =>
      intro wS hS
      go_simp
      all_goals with_reducible rfl
    try simp only [Act.put, List.setIfInBounds_toArray, List.set_cons_zero, List.set_cons_succ]
    refine Reg.take_yes (i := 1) (d := some 36) (v := ?v35) rfl rfl (by kernel_rfl) (by kernel_rfl) (by kernel_rfl) (fun _ _ _ h => by cases h.1) (by rfl) ?y35 hHeld ?r35
    case y35 =>
      intro wS hS
      go_simp
      all_goals with_reducible rfl
    try simp only [Act.put, List.setIfInBounds_toArray, List.set_cons_zero, List.set_cons_succ]
    refine Reg.take_yes (i := 2) (d := some 37) (v := ?v36) rfl rfl (by kernel_rfl) (by kernel_rfl) (by kernel_rfl) (fun _ _ _ h => by cases h.1) (by rfl) ?y36 hHeld ?r36
    case y36 =>
      intro wS hS
      go_simp
      all_goals with_reducible rfl
    try simp only [Act.put, List.setIfInBounds_toArray, List.set_cons_zero, List.set_cons_succ]
    refine Reg.take_yes (i := 3) (d := some 38) (v := ?v37) rfl rfl (by kernel_rfl) (by kernel_rfl) (by kernel_rfl) (fun _ _ _ h => by cases h.1) (by rfl) ?y37 hHeld ?r37
    case y37 =>
      intro wS hS
      go_simp
      all_goals with_reducible rfl
    try simp only [Act.put, List.setIfInBounds_toArray, List.set_cons_zero, List.set_cons_succ]
    refine Reg.take_yes (i := 4) (d := some 39) (v := ?v38) rfl rfl (by kernel_rfl) (by kernel_rfl) (by kernel_rfl) (fun _ _ _ h => by cases h.1) (by rfl) ?y38 hHeld ?r38
    case y38 =>
      intro wS hS
      go_simp
      all_goals with_reducible rfl
    try simp only [Act.put, List.setIfInBounds_toArray, List.set_cons_zero, List.set_cons_succ]
    refine Reg.take_yes (i := 5) (d := some 40) (v := ?v39) rfl rfl (by kernel_rfl) (by kernel_rfl) (by kernel_rfl) (fun _ _ _ h => by cases h.1) (by rfl) ?y39 hHeld ?r39
    case y39 =>
      intro wS hS
      go_simp
      all_goals with_reducible rfl
    try simp only [Act.put, List.setIfInBounds_toArray, List.set_cons_zero, List.set_cons_succ]
    refine Reg.take_yes (i := 6) (d := some 41) (v := ?v40) rfl rfl (by kernel_rfl) (by kernel_rfl) (by kernel_rfl) (fun _ _ _ h => by cases h.1) (by rfl) ?y40 hHeld ?r40
    case y40 =>
      intro wS hS
      go_simp
      all_goals with_reducible rfl
    try simp only [Act.put, List.setIfInBounds_toArray, List.set_cons_zero, List.set_cons_succ]
    refine Reg.take_yes (i := 7) (d := some 42) (v := ?v41) rfl rfl (by kernel_rfl) (by kernel_rfl) (by kernel_rfl) (fun _ _ _ h => by cases h.1) (by rfl) ?y41 hHeld ?r41
    case y41 =>
      intro wS hS
      obtain ⟨sL, sB, s0, s1, s2, s3, s4, s5, z0, z1⟩ := hS
      go_simp
      all_goals with_reducible rfl
    try simp only [Act.put, List.setIfInBounds_toArray, List.set_cons_zero, List.set_cons_succ]
    refine Reg.take_yes (i := 8) (d := some 43) (v := ?v42) rfl rfl (by kernel_rfl) (by kernel_rfl) (by kernel_rfl) (fun _ _ _ h => by cases h.1) (by rfl) ?y42 hHeld ?r42
    case y42 =>
      intro wS hS
      go_simp
      all_goals with_reducible rfl
    try simp only [Act.put, List.setIfInBounds_toArray, List.set_cons_zero, List.set_cons_succ]
    refine wpAnyH_ready (rs := [9]) (by kernel_rfl) (by simp) ?_
    refine Reg.cons_yes rfl (by rfl) (fun K hK => ?_) ?_
    · go_simp
      have hH := hHeld
      obtain ⟨sL, sB, s0, s1, s2, s3, s4, s5, z0, z1⟩ := hH
      refine Calls.mono (HY.out _ sL) ?_
      rintro e wA ⟨rfl, hb⟩
      refine hK.out _ _ (⟨sL.below hb, below_then sB sB.size hb, cell_later hb s0, cell_later hb s1, cell_later hb s2, cell_later hb s3, cell_later hb s4, cell_later hb s5, Nat.lt_of_lt_of_le z0 hb.size, Nat.lt_of_lt_of_le z1 hb.size⟩) (fun hHeld => ?_)
      clear hK K
      try simp only [Act.put, List.setIfInBounds_toArray, List.set_cons_zero, List.set_cons_succ]
      refine Reg.take_yes (i := 10) (d := some 45) (v := ?v43) rfl rfl (by kernel_rfl) (by kernel_rfl) (by kernel_rfl) (fun _ _ _ h => by cases h.1) (by rfl) ?y43 hHeld ?r43
      case y43 =>
        intro wS hS
        go_simp
        all_goals with_reducible rfl
      try simp only [Act.put, List.setIfInBounds_toArray, List.set_cons_zero, List.set_cons_succ]
      refine Reg.take_yes (i := 11) (d := some 46) (v := ?v44) rfl rfl (by kernel_rfl) (by kernel_rfl) (by kernel_rfl) (fun _ _ _ h => by cases h.1) (by rfl) ?y44 hHeld ?r44
      case y44 =>
        intro wS hS
        go_simp
        all_goals with_reducible rfl
      try simp only [Act.put, List.setIfInBounds_toArray, List.set_cons_zero, List.set_cons_succ]
      refine Reg.take_yes (i := 12) (d := some 47) (v := ?v45) rfl rfl (by kernel_rfl) (by kernel_rfl) (by kernel_rfl) (fun _ _ _ h => by cases h.1) (by rfl) ?y45 hHeld ?r45
      case y45 =>
        intro wS hS
        go_simp
        all_goals with_reducible rfl
      try simp only [Act.put, List.setIfInBounds_toArray, List.set_cons_zero, List.set_cons_succ]
      refine Reg.take_yes (i := 13) (d := some 48) (v := ?v46) rfl rfl (by kernel_rfl) (by kernel_rfl) (by kernel_rfl) (fun _ _ _ h => by cases h.1) (by rfl) ?y46 hHeld ?r46
      case y46 =>
        intro wS hS
        go_simp
        all_goals with_reducible rfl
      try simp only [Act.put, List.setIfInBounds_toArray, List.set_cons_zero, List.set_cons_succ]
      refine Reg.take_yes (i := 14) (d := some 49) (v := ?v47) rfl rfl (by kernel_rfl) (by kernel_rfl) (by kernel_rfl) (fun _ _ _ h => by cases h.1) (by rfl) ?y47 hHeld ?r47
      case y47 =>
        intro wS hS
        go_simp
        all_goals with_reducible rfl
      try simp only [Act.put, List.setIfInBounds_toArray, List.set_cons_zero, List.set_cons_succ]
      refine Reg.take_yes (i := 15) (d := some 50) (v := ?v48) rfl rfl (by kernel_rfl) (by kernel_rfl) (by kernel_rfl) (fun _ _ _ h => by cases h.1) (by rfl) ?y48 hHeld ?r48
      case y48 =>
        intro wS hS
        go_simp
        all_goals with_reducible rfl
      try simp only [Act.put, List.setIfInBounds_toArray, List.set_cons_zero, List.set_cons_succ]
      refine Reg.take_yes (i := 16) (d := some 51) (v := ?v49) rfl rfl (by kernel_rfl) (by kernel_rfl) (by kernel_rfl) (fun _ _ _ h => by cases h.1) (by rfl) ?y49 hHeld ?r49
      case y49 =>
        intro wS hS
        go_simp
        all_goals with_reducible rfl
      try simp only [Act.put, List.setIfInBounds_toArray, List.set_cons_zero, List.set_cons_succ]
      refine Reg.take_no (i := 17) (d := some 52) rfl rfl (by kernel_rfl) (by kernel_rfl) (by kernel_rfl) (fun _ _ _ h => by cases h.1) (by rfl) hHeld ?_
      try simp only [Act.put, List.setIfInBounds_toArray, List.set_cons_zero, List.set_cons_succ]
      refine Reg.take_no (i := 18) (d := some 53) rfl rfl (by kernel_rfl) (by kernel_rfl) (by kernel_rfl) (fun _ _ _ h => by cases h.1) (by rfl) hHeld ?_
      try simp only [Act.put, List.setIfInBounds_toArray, List.set_cons_zero, List.set_cons_succ]
      refine Reg.take_no (i := 19) (d := some 54) rfl rfl (by kernel_rfl) (by kernel_rfl) (by kernel_rfl) (fun _ _ _ h => by cases h.1) (by rfl) hHeld ?_
      try simp only [Act.put, List.setIfInBounds_toArray, List.set_cons_zero, List.set_cons_succ]
      refine Reg.take_no (i := 20) (d := some 55) rfl rfl (by kernel_rfl) (by kernel_rfl) (by kernel_rfl) (fun _ _ _ h => by cases h.1) (by rfl) hHeld ?_
      try simp only [Act.put, List.setIfInBounds_toArray, List.set_cons_zero, List.set_cons_succ]
      refine Reg.take_no (i := 21) (d := some 56) rfl rfl (by kernel_rfl) (by kernel_rfl) (by kernel_rfl) (fun _ _ _ h => by cases h.1) (by rfl) hHeld ?_
      try simp only [Act.put, List.setIfInBounds_toArray, List.set_cons_zero, List.set_cons_succ]
      refine Reg.take_no (i := 22) (d := some 57) rfl rfl (by kernel_rfl) (by kernel_rfl) (by kernel_rfl) (fun _ _ _ h => by cases h.1) (by rfl) hHeld ?_
      try simp only [Act.put, List.setIfInBounds_toArray, List.set_cons_zero, List.set_cons_succ]
      refine Reg.take_no (i := 23) (d := some 58) rfl rfl (by kernel_rfl) (by kernel_rfl) (by kernel_rfl) (fun _ _ _ h => by cases h.1) (by rfl) hHeld ?_
      try simp only [Act.put, List.setIfInBounds_toArray, List.set_cons_zero, List.set_cons_succ]
      refine Reg.take_yes (i := 24) (d := some 59) (v := ?v50) rfl rfl (by kernel_rfl) (by kernel_rfl) (by kernel_rfl) (fun _ _ _ h => by cases h.1) (by rfl) ?y50 hHeld ?r50
      case y50 =>
        intro wS hS
        go_simp
        all_goals with_reducible rfl
      try simp only [Act.put, List.setIfInBounds_toArray, List.set_cons_zero, List.set_cons_succ]
      refine Reg.take_yes (i := 25) (d := some 60) (v := ?v51) rfl rfl (by kernel_rfl) (by kernel_rfl) (by kernel_rfl) (fun _ _ _ h => by cases h.1) (by rfl) ?y51 hHeld ?r51
      case y51 =>
        intro wS hS
        go_simp
        all_goals with_reducible rfl
      try simp only [Act.put, List.setIfInBounds_toArray, List.set_cons_zero, List.set_cons_succ]
      refine wpAnyH_done (by kernel_rfl) ?_ _
      refine ⟨rfl, ?_, hHeld⟩
      with_reducible rfl
    exact AllReadyH.nil
  rintro w3 ⟨hL, hB, s0, s1, s2, s3, s4, s5, z0, z1⟩
  have hid3 := Lib.hid hB
  have P3 := Lib.hid (Own3.mk z0 s0 s1 s2)
  clear hL hB s0 s1 s2 s3 s4 s5 z0 z1
  clear eBel1 eLd1 ePBlk1 eXBlk1
  have Pq0 := P3.out.c0
  have Pq1 := P3.out.c1
  have Pq2 := P3.out.c2
  go_wp2_with fail
  clear Pq0 Pq1 Pq2
  have eBel2 := Lib.hid ((hid3.out).drew)
  have eLd2 := Lib.hid (HL.out.below (eBel2.out))
  have ePBlk2 := Lib.hid ((P3.out).below (Below.refl _ _).drew)
  clear hid3 P3
  refine Reg.cut (S := (fun w' => Ld w' ∧ Below w.heap.size w w' ∧ w'.cell? ⟨w.heap.size, 0, none⟩ = some (.int .i64 m) ∧ w'.cell? ⟨w.heap.size, 1, none⟩ = some (.int .u64 f) ∧ w'.cell? ⟨w.heap.size, 2, none⟩ = some (.int .u64 o) ∧ w.heap.size < w'.heap.size)) (A := ?hA52) ?hreg52 ?hrest52
  case hreg52 =>
    refine wp_region_held_drew (S := (fun w' => Ld w' ∧ Below w.heap.size w w' ∧ w'.cell? ⟨w.heap.size, 0, none⟩ = some (.int .i64 m) ∧ w'.cell? ⟨w.heap.size, 1, none⟩ = some (.int .u64 f) ∧ w'.cell? ⟨w.heap.size, 2, none⟩ = some (.int .u64 o) ∧ w.heap.size < w'.heap.size)) (by kernel_rfl) (⟨eLd2.out, eBel2.out, (ePBlk2.out).c0, (ePBlk2.out).c1, (ePBlk2.out).c2, (ePBlk2.out).lt⟩) (fun hHeld => ?_)
    refine Reg.take_yes (i := 0) (d := some 61) (v := ?v53) rfl rfl (by kernel_rfl) (by kernel_rfl) (by kernel_rfl) (fun _ _ _ h => by cases h.1) (by rfl) ?y53 hHeld ?r53
    case y53 =>
      intro wS hS
      obtain ⟨sL, sB, s0, s1, s2, z0⟩ := hS
      go_simp
      all_goals with_reducible rfl
    try simp only [Act.put, List.setIfInBounds_toArray, List.set_cons_zero, List.set_cons_succ]
    refine Reg.take_yes (i := 2) (d := some 63) (v := ?v54) rfl rfl (by kernel_rfl) (by kernel_rfl) (by kernel_rfl) (fun _ _ _ h => by cases h.1) (by rfl) ?y54 hHeld ?r54
    case y54 =>
      intro wS hS
      obtain ⟨sL, sB, s0, s1, s2, z0⟩ := hS
      go_simp
      all_goals with_reducible rfl
    try simp only [Act.put, List.setIfInBounds_toArray, List.set_cons_zero, List.set_cons_succ]
    refine wpAnyH_ready (rs := [1]) (by kernel_rfl) (by simp) ?_
    refine Reg.cons_yes rfl (by rfl) (fun K hK => ?_) ?_
    · go_simp
      have hH := hHeld
      obtain ⟨sL, sB, s0, s1, s2, z0⟩ := hH
      refine Calls.mono (HR.out _ sL) ?_
      rintro e wA ⟨rfl, hb⟩
      refine hK.out _ _ (⟨sL.below hb, below_then sB sB.size hb, cell_later hb s0, cell_later hb s1, cell_later hb s2, Nat.lt_of_lt_of_le z0 hb.size⟩) (fun hHeld => ?_)
      clear hK K
      try simp only [Act.put, List.setIfInBounds_toArray, List.set_cons_zero, List.set_cons_succ]
      refine wpAnyH_ready (rs := [3]) (by kernel_rfl) (by simp) ?_
      refine Reg.cons_yes rfl (by rfl) (fun K hK => ?_) ?_
      · go_simp
        have hH := hHeld
        obtain ⟨sL, sB, s0, s1, s2, z0⟩ := hH
        refine Calls.mono (HS.out _ sL) ?_
        rintro e wA ⟨rfl, hb⟩
        refine hK.out _ _ (⟨sL.below hb, below_then sB sB.size hb, cell_later hb s0, cell_later hb s1, cell_later hb s2, Nat.lt_of_lt_of_le z0 hb.size⟩) (fun hHeld => ?_)
        clear hK K
        try simp only [Act.put, List.setIfInBounds_toArray, List.set_cons_zero, List.set_cons_succ]
        refine Reg.take_yes (i := 4) (d := some 65) (v := ?v55) rfl rfl (by kernel_rfl) (by kernel_rfl) (by kernel_rfl) (fun _ _ _ h => by cases h.1) (by rfl) ?y55 hHeld ?r55
        case y55 =>
          intro wS hS
          go_simp
          all_goals with_reducible rfl
        try simp only [Act.put, List.setIfInBounds_toArray, List.set_cons_zero, List.set_cons_succ]
        refine Reg.take_yes (i := 5) (d := some 66) (v := ?v56) rfl rfl (by kernel_rfl) (by kernel_rfl) (by kernel_rfl) (fun _ _ _ h => by cases h.1) (by rfl) ?y56 hHeld ?r56
        case y56 =>
          intro wS hS
          go_simp
          all_goals with_reducible rfl
        try simp only [Act.put, List.setIfInBounds_toArray, List.set_cons_zero, List.set_cons_succ]
        refine Reg.take_yes (i := 6) (d := some 67) (v := ?v57) rfl rfl (by kernel_rfl) (by kernel_rfl) (by kernel_rfl) (fun _ _ _ h => by cases h.1) (by rfl) ?y57 hHeld ?r57
        case y57 =>
          intro wS hS
          obtain ⟨sL, sB, s0, s1, s2, z0⟩ := hS
          go_simp
          all_goals with_reducible rfl
        try simp only [Act.put, List.setIfInBounds_toArray, List.set_cons_zero, List.set_cons_succ]
        refine wpAnyH_ready (rs := [7]) (by kernel_rfl) (by simp) ?_
        refine Reg.cons_yes rfl (by rfl) (fun K hK => ?_) ?_
        · go_simp
          have hH := hHeld
          obtain ⟨sL, sB, s0, s1, s2, z0⟩ := hH
          refine Calls.mono (HS.out _ sL) ?_
          rintro e wA ⟨rfl, hb⟩
          refine hK.out _ _ (⟨sL.below hb, below_then sB sB.size hb, cell_later hb s0, cell_later hb s1, cell_later hb s2, Nat.lt_of_lt_of_le z0 hb.size⟩) (fun hHeld => ?_)
          clear hK K
          try simp only [Act.put, List.setIfInBounds_toArray, List.set_cons_zero, List.set_cons_succ]
          refine Reg.take_yes (i := 8) (d := some 69) (v := ?v58) rfl rfl (by kernel_rfl) (by kernel_rfl) (by kernel_rfl) (fun _ _ _ h => by cases h.1) (by rfl) ?y58 hHeld ?r58
          case y58 =>
            intro wS hS
            go_simp
            all_goals with_reducible rfl
          try simp only [Act.put, List.setIfInBounds_toArray, List.set_cons_zero, List.set_cons_succ]
          refine Reg.take_yes (i := 9) (d := some 70) (v := ?v59) rfl rfl (by kernel_rfl) (by kernel_rfl) (by kernel_rfl) (fun _ _ _ h => by cases h.1) (by rfl) ?y59 hHeld ?r59
          case y59 =>
            intro wS hS
            go_simp
            all_goals with_reducible rfl
          try simp only [Act.put, List.setIfInBounds_toArray, List.set_cons_zero, List.set_cons_succ]
          refine wpAnyH_done (by kernel_rfl) ?_ _
          refine ⟨rfl, ?_, hHeld⟩
          with_reducible rfl
        exact AllReadyH.nil
      exact AllReadyH.nil
    exact AllReadyH.nil
  rintro w4 ⟨hL, hB, s0, s1, s2, z0⟩
  have hid4 := Lib.hid hB
  have P4 := Lib.hid (Own3.mk z0 s0 s1 s2)
  clear hL hB s0 s1 s2 z0
  clear eBel2 eLd2 ePBlk2
  have Pq0 := P4.out.c0
  have Pq1 := P4.out.c1
  have Pq2 := P4.out.c2
  go_wp2_with fail
  clear Pq0 Pq1 Pq2
  refine (HT.out _ (HL.out.below hid4.out)).mono ?_
  rintro e w5 ⟨rfl, hb⟩
  have hid5 := Lib.hid (below_then hid4.out hid4.out.size hb)
  have P5 := Lib.hid (P4.out.below hb)
  clear hb hid4 P4
  have Pq0 := P5.out.c0
  have Pr0 := fun o => (P5.out.alloc o).c0
  have Pq1 := P5.out.c1
  have Pr1 := fun o => (P5.out.alloc o).c1
  have Pq2 := P5.out.c2
  have Pr2 := fun o => (P5.out.alloc o).c2
  go_wp2_with fail
  clear Pq0 Pr0 Pq1 Pr1 Pq2 Pr2
  refine (HU.out _ (HL.out.below (below_alloc hid5.out _))).mono ?_
  rintro e w6 ⟨rfl, hb⟩
  have hid6 := Lib.hid (below_then (below_alloc hid5.out _) (below_alloc hid5.out _).size hb)
  have P6 := Lib.hid ((P5.out.alloc _).below hb)
  have A6 := Lib.hid ((Own3.new w5 (.int .i64 t0) (.int .u64 t1) (.int .u64 t2) 24).below hb)
  clear hb hid5 P5
  have Pq0 := P6.out.c0
  have Pr0 := fun o => (P6.out.alloc o).c0
  have Pq1 := P6.out.c1
  have Pr1 := fun o => (P6.out.alloc o).c1
  have Pq2 := P6.out.c2
  have Pr2 := fun o => (P6.out.alloc o).c2
  have Aq0 := A6.out.c0
  have Ar0 := fun o => (A6.out.alloc o).c0
  have Aq1 := A6.out.c1
  have Ar1 := fun o => (A6.out.alloc o).c1
  have Aq2 := A6.out.c2
  have Ar2 := fun o => (A6.out.alloc o).c2
  go_wp2_with fail
  clear Pq0 Pr0 Pq1 Pr1 Pq2 Pr2 Aq0 Ar0 Aq1 Ar1 Aq2 Ar2
  refine (HG.out _ (HL.out.below (below_alloc hid6.out _))).mono ?_
  rintro e w7 ⟨rfl, hb⟩
  have hid7 := Lib.hid (below_then (below_alloc hid6.out _) (below_alloc hid6.out _).size hb)
  have P7 := Lib.hid ((P6.out.alloc _).below hb)
  have A7 := Lib.hid ((A6.out.alloc _).below hb)
  have B7 := Lib.hid ((Own3.new w6 (.int .i64 t0) (.int .u64 t1) (.int .u64 t2) 24).below hb)
  clear hb hid6 P6 A6
  have Pq0 := P7.out.c0
  have Pr0 := fun o => (P7.out.alloc o).c0
  have Pq1 := P7.out.c1
  have Pr1 := fun o => (P7.out.alloc o).c1
  have Pq2 := P7.out.c2
  have Pr2 := fun o => (P7.out.alloc o).c2
  have Aq0 := A7.out.c0
  have Ar0 := fun o => (A7.out.alloc o).c0
  have Aq1 := A7.out.c1
  have Ar1 := fun o => (A7.out.alloc o).c1
  have Aq2 := A7.out.c2
  have Ar2 := fun o => (A7.out.alloc o).c2
  have Bq0 := B7.out.c0
  have Br0 := fun o => (B7.out.alloc o).c0
  have Bq1 := B7.out.c1
  have Br1 := fun o => (B7.out.alloc o).c1
  have Bq2 := B7.out.c2
  have Br2 := fun o => (B7.out.alloc o).c2
  go_wp2_with fail
  clear Pq0 Pr0 Pq1 Pr1 Pq2 Pr2 Aq0 Ar0 Aq1 Ar1 Aq2 Ar2 Bq0 Br0 Bq1 Br1 Bq2 Br2
  refine (HH.out _ (HL.out.below (below_alloc hid7.out _))).mono ?_
  rintro e w8 ⟨rfl, hb⟩
  have hid8 := Lib.hid (below_then (below_alloc hid7.out _) (below_alloc hid7.out _).size hb)
  have P8 := Lib.hid ((P7.out.alloc _).below hb)
  have A8 := Lib.hid ((A7.out.alloc _).below hb)
  have B8 := Lib.hid ((B7.out.alloc _).below hb)
  have C8 := Lib.hid ((Own3.new w7 (.int .i64 g0) (.int .u64 g1) (.int .u64 g2) 24).below hb)
  clear hb hid7 P7 A7 B7
  have Pq0 := P8.out.c0
  have Pr0 := fun o => (P8.out.alloc o).c0
  have Pq1 := P8.out.c1
  have Pr1 := fun o => (P8.out.alloc o).c1
  have Pq2 := P8.out.c2
  have Pr2 := fun o => (P8.out.alloc o).c2
  have Aq0 := A8.out.c0
  have Ar0 := fun o => (A8.out.alloc o).c0
  have Aq1 := A8.out.c1
  have Ar1 := fun o => (A8.out.alloc o).c1
  have Aq2 := A8.out.c2
  have Ar2 := fun o => (A8.out.alloc o).c2
  have Bq0 := B8.out.c0
  have Br0 := fun o => (B8.out.alloc o).c0
  have Bq1 := B8.out.c1
  have Br1 := fun o => (B8.out.alloc o).c1
  have Bq2 := B8.out.c2
  have Br2 := fun o => (B8.out.alloc o).c2
  have Cq0 := C8.out.c0
  have Cr0 := fun o => (C8.out.alloc o).c0
  have Cq1 := C8.out.c1
  have Cr1 := fun o => (C8.out.alloc o).c1
  have Cq2 := C8.out.c2
  have Cr2 := fun o => (C8.out.alloc o).c2
  go_wp2_with fail
  clear Pq0 Pr0 Pq1 Pr1 Pq2 Pr2 Aq0 Ar0 Aq1 Ar1 Aq2 Ar2 Bq0 Br0 Bq1 Br1 Bq2 Br2 Cq0 Cr0 Cq1 Cr1 Cq2 Cr2
  have eBel3 := Lib.hid (fun o => (below_alloc hid8.out o).drew)
  have eLd3 := Lib.hid (fun o => HL.out.below (eBel3.out o))
  have ePBlk3 := Lib.hid (fun o => (P8.out.alloc o).below (Below.refl _ _).drew)
  have eABlk3 := Lib.hid (fun o => (A8.out.alloc o).below (Below.refl _ _).drew)
  have eBBlk3 := Lib.hid (fun o => (B8.out.alloc o).below (Below.refl _ _).drew)
  have eCBlk3 := Lib.hid (fun o => (C8.out.alloc o).below (Below.refl _ _).drew)
  have eDBlk3 := Lib.hid ((Own3.new w8 (.int .i64 g0) (.int .u64 g1) (.int .u64 g2) 24).below (Below.refl _ _).drew)
  clear hid8 P8 A8 B8 C8
  refine Reg.cut (S := (fun w' => Ld w' ∧ Below w.heap.size w w' ∧ w'.cell? ⟨w.heap.size, 0, none⟩ = some (.int .i64 m) ∧ w'.cell? ⟨w.heap.size, 1, none⟩ = some (.int .u64 f) ∧ w'.cell? ⟨w.heap.size, 2, none⟩ = some (.int .u64 o) ∧ w'.cell? ⟨w5.heap.size, 0, none⟩ = some (.int .i64 t0) ∧ w'.cell? ⟨w5.heap.size, 1, none⟩ = some (.int .u64 t1) ∧ w'.cell? ⟨w5.heap.size, 2, none⟩ = some (.int .u64 t2) ∧ w'.cell? ⟨w6.heap.size, 0, none⟩ = some (.int .i64 t0) ∧ w'.cell? ⟨w6.heap.size, 1, none⟩ = some (.int .u64 t1) ∧ w'.cell? ⟨w6.heap.size, 2, none⟩ = some (.int .u64 t2) ∧ w'.cell? ⟨w7.heap.size, 0, none⟩ = some (.int .i64 g0) ∧ w'.cell? ⟨w7.heap.size, 1, none⟩ = some (.int .u64 g1) ∧ w'.cell? ⟨w7.heap.size, 2, none⟩ = some (.int .u64 g2) ∧ w'.cell? ⟨w8.heap.size, 0, none⟩ = some (.int .i64 g0) ∧ w'.cell? ⟨w8.heap.size, 1, none⟩ = some (.int .u64 g1) ∧ w'.cell? ⟨w8.heap.size, 2, none⟩ = some (.int .u64 g2) ∧ w.heap.size < w'.heap.size ∧ w5.heap.size < w'.heap.size ∧ w6.heap.size < w'.heap.size ∧ w7.heap.size < w'.heap.size ∧ w8.heap.size < w'.heap.size)) (A := ?hA60) ?hreg60 ?hrest60
  case hreg60 =>
    refine wp_region_held_drew (S := (fun w' => Ld w' ∧ Below w.heap.size w w' ∧ w'.cell? ⟨w.heap.size, 0, none⟩ = some (.int .i64 m) ∧ w'.cell? ⟨w.heap.size, 1, none⟩ = some (.int .u64 f) ∧ w'.cell? ⟨w.heap.size, 2, none⟩ = some (.int .u64 o) ∧ w'.cell? ⟨w5.heap.size, 0, none⟩ = some (.int .i64 t0) ∧ w'.cell? ⟨w5.heap.size, 1, none⟩ = some (.int .u64 t1) ∧ w'.cell? ⟨w5.heap.size, 2, none⟩ = some (.int .u64 t2) ∧ w'.cell? ⟨w6.heap.size, 0, none⟩ = some (.int .i64 t0) ∧ w'.cell? ⟨w6.heap.size, 1, none⟩ = some (.int .u64 t1) ∧ w'.cell? ⟨w6.heap.size, 2, none⟩ = some (.int .u64 t2) ∧ w'.cell? ⟨w7.heap.size, 0, none⟩ = some (.int .i64 g0) ∧ w'.cell? ⟨w7.heap.size, 1, none⟩ = some (.int .u64 g1) ∧ w'.cell? ⟨w7.heap.size, 2, none⟩ = some (.int .u64 g2) ∧ w'.cell? ⟨w8.heap.size, 0, none⟩ = some (.int .i64 g0) ∧ w'.cell? ⟨w8.heap.size, 1, none⟩ = some (.int .u64 g1) ∧ w'.cell? ⟨w8.heap.size, 2, none⟩ = some (.int .u64 g2) ∧ w.heap.size < w'.heap.size ∧ w5.heap.size < w'.heap.size ∧ w6.heap.size < w'.heap.size ∧ w7.heap.size < w'.heap.size ∧ w8.heap.size < w'.heap.size)) (by kernel_rfl) (⟨eLd3.out _, eBel3.out _, (ePBlk3.out _).c0, (ePBlk3.out _).c1, (ePBlk3.out _).c2, (eABlk3.out _).c0, (eABlk3.out _).c1, (eABlk3.out _).c2, (eBBlk3.out _).c0, (eBBlk3.out _).c1, (eBBlk3.out _).c2, (eCBlk3.out _).c0, (eCBlk3.out _).c1, (eCBlk3.out _).c2, (eDBlk3.out).c0, (eDBlk3.out).c1, (eDBlk3.out).c2, (ePBlk3.out _).lt, (eABlk3.out _).lt, (eBBlk3.out _).lt, (eCBlk3.out _).lt, (eDBlk3.out).lt⟩) (fun hHeld => ?_)
    refine Reg.take_yes (i := 0) (d := some 102) (v := ?v61) rfl rfl (by kernel_rfl) (by kernel_rfl) (by kernel_rfl) (fun _ _ _ h => by cases h.1) (by rfl) ?y61 hHeld ?r61
    case y61 =>
      intro wS hS
      obtain ⟨sL, sB, s0, s1, s2, s3, s4, s5, s6, s7, s8, s9, s10, s11, s12, s13, s14, z0, z1, z2, z3, z4⟩ := hS
      go_simp
      all_goals with_reducible rfl
    try simp only [Act.put, List.setIfInBounds_toArray, List.set_cons_zero, List.set_cons_succ]
    refine Reg.take_yes (i := 1) (d := some 103) (v := ?v62) rfl rfl (by kernel_rfl) (by kernel_rfl) (by kernel_rfl) (fun _ _ _ h => by cases h.1) (by rfl) ?y62 hHeld ?r62
    case y62 =>
      intro wS hS
      obtain ⟨sL, sB, s0, s1, s2, s3, s4, s5, s6, s7, s8, s9, s10, s11, s12, s13, s14, z0, z1, z2, z3, z4⟩ := hS
      go_simp
      all_goals with_reducible rfl
    try simp only [Act.put, List.setIfInBounds_toArray, List.set_cons_zero, List.set_cons_succ]
    refine Reg.take_yes (i := 2) (d := some 104) (v := ?v63) rfl rfl (by kernel_rfl) (by kernel_rfl) (by kernel_rfl) (fun _ _ _ h => by cases h.1) (by rfl) ?y63 hHeld ?r63
    case y63 =>
      intro wS hS
      go_simp
      all_goals with_reducible rfl
    try simp only [Act.put, List.setIfInBounds_toArray, List.set_cons_zero, List.set_cons_succ]
    refine Reg.take_yes (i := 3) (d := some 105) (v := ?v64) rfl rfl (by kernel_rfl) (by kernel_rfl) (by kernel_rfl) (fun _ _ _ h => by cases h.1) (by rfl) ?y64 hHeld ?r64
    case y64 =>
      intro wS hS
      go_simp
      all_goals with_reducible rfl
    try simp only [Act.put, List.setIfInBounds_toArray, List.set_cons_zero, List.set_cons_succ]
    refine Reg.take_yes (i := 4) (d := some 106) (v := ?v65) rfl rfl (by kernel_rfl) (by kernel_rfl) (by kernel_rfl) (fun _ _ _ h => by cases h.1) (by rfl) ?y65 hHeld ?r65
    case y65 =>
      intro wS hS
      go_simp
      all_goals with_reducible rfl
    try simp only [Act.put, List.setIfInBounds_toArray, List.set_cons_zero, List.set_cons_succ]
    refine Reg.take_yes (i := 5) (d := some 107) (v := ?v66) rfl rfl (by kernel_rfl) (by kernel_rfl) (by kernel_rfl) (fun _ _ _ h => by cases h.1) (by rfl) ?y66 hHeld ?r66
    case y66 =>
      intro wS hS
      go_simp
      all_goals with_reducible rfl
    try simp only [Act.put, List.setIfInBounds_toArray, List.set_cons_zero, List.set_cons_succ]
    refine Reg.take_yes (i := 6) (d := some 108) (v := ?v67) rfl rfl (by kernel_rfl) (by kernel_rfl) (by kernel_rfl) (fun _ _ _ h => by cases h.1) (by rfl) ?y67 hHeld ?r67
    case y67 =>
      intro wS hS
      go_simp
      all_goals with_reducible rfl
    try simp only [Act.put, List.setIfInBounds_toArray, List.set_cons_zero, List.set_cons_succ]
    refine Reg.take_yes (i := 7) (d := some 109) (v := ?v68) rfl rfl (by kernel_rfl) (by kernel_rfl) (by kernel_rfl) (fun _ _ _ h => by cases h.1) (by rfl) ?y68 hHeld ?r68
    case y68 =>
      intro wS hS
      go_simp
      all_goals with_reducible rfl
    try simp only [Act.put, List.setIfInBounds_toArray, List.set_cons_zero, List.set_cons_succ]
    refine Reg.take_yes (i := 8) (d := some 110) (v := ?v69) rfl rfl (by kernel_rfl) (by kernel_rfl) (by kernel_rfl) (fun _ _ _ h => by cases h.1) (by rfl) ?y69 hHeld ?r69
    case y69 =>
      intro wS hS
      go_simp
      all_goals with_reducible rfl
    try simp only [Act.put, List.setIfInBounds_toArray, List.set_cons_zero, List.set_cons_succ]
    refine Reg.take_yes (i := 9) (d := some 111) (v := ?v70) rfl rfl (by kernel_rfl) (by kernel_rfl) (by kernel_rfl) (fun _ _ _ h => by cases h.1) (by rfl) ?y70 hHeld ?r70
    case y70 =>
      intro wS hS
      go_simp
      all_goals with_reducible rfl
    try simp only [Act.put, List.setIfInBounds_toArray, List.set_cons_zero, List.set_cons_succ]
    refine Reg.take_yes (i := 10) (d := some 112) (v := ?v71) rfl rfl (by kernel_rfl) (by kernel_rfl) (by kernel_rfl) (fun _ _ _ h => by cases h.1) (by rfl) ?y71 hHeld ?r71
    case y71 =>
      intro wS hS
      go_simp
      all_goals with_reducible rfl
    try simp only [Act.put, List.setIfInBounds_toArray, List.set_cons_zero, List.set_cons_succ]
    refine Reg.take_yes (i := 11) (d := some 113) (v := ?v72) rfl rfl (by kernel_rfl) (by kernel_rfl) (by kernel_rfl) (fun _ _ _ h => by cases h.1) (by rfl) ?y72 hHeld ?r72
    case y72 =>
      intro wS hS
      go_simp
      all_goals with_reducible rfl
    try simp only [Act.put, List.setIfInBounds_toArray, List.set_cons_zero, List.set_cons_succ]
    refine Reg.take_yes (i := 12) (d := some 114) (v := ?v73) rfl rfl (by kernel_rfl) (by kernel_rfl) (by kernel_rfl) (fun _ _ _ h => by cases h.1) (by rfl) ?y73 hHeld ?r73
    case y73 =>
      intro wS hS
      go_simp
      all_goals with_reducible rfl
    try simp only [Act.put, List.setIfInBounds_toArray, List.set_cons_zero, List.set_cons_succ]
    refine Reg.take_yes (i := 13) (d := some 115) (v := ?v74) rfl rfl (by kernel_rfl) (by kernel_rfl) (by kernel_rfl) (fun _ _ _ h => by cases h.1) (by rfl) ?y74 hHeld ?r74
    case y74 =>
      intro wS hS
      go_simp
      all_goals with_reducible rfl
    try simp only [Act.put, List.setIfInBounds_toArray, List.set_cons_zero, List.set_cons_succ]
    refine Reg.take_yes (i := 14) (d := some 116) (v := ?v75) rfl rfl (by kernel_rfl) (by kernel_rfl) (by kernel_rfl) (fun _ _ _ h => by cases h.1) (by rfl) ?y75 hHeld ?r75
    case y75 =>
      intro wS hS
      go_simp
      all_goals with_reducible rfl
    try simp only [Act.put, List.setIfInBounds_toArray, List.set_cons_zero, List.set_cons_succ]
    refine Reg.take_yes (i := 15) (d := some 117) (v := ?v76) rfl rfl (by kernel_rfl) (by kernel_rfl) (by kernel_rfl) (fun _ _ _ h => by cases h.1) (by rfl) ?y76 hHeld ?r76
    case y76 =>
      intro wS hS
      go_simp
      all_goals with_reducible rfl
    try simp only [Act.put, List.setIfInBounds_toArray, List.set_cons_zero, List.set_cons_succ]
    refine Reg.take_yes (i := 16) (d := some 118) (v := ?v77) rfl rfl (by kernel_rfl) (by kernel_rfl) (by kernel_rfl) (fun _ _ _ h => by cases h.1) (by rfl) ?y77 hHeld ?r77
    case y77 =>
      intro wS hS
      go_simp
      all_goals with_reducible rfl
    try simp only [Act.put, List.setIfInBounds_toArray, List.set_cons_zero, List.set_cons_succ]
    refine Reg.take_yes (i := 17) (d := some 119) (v := ?v78) rfl rfl (by kernel_rfl) (by kernel_rfl) (by kernel_rfl) (fun _ _ _ h => by cases h.1) (by rfl) ?y78 hHeld ?r78
    case y78 =>
      intro wS hS
      go_simp
      all_goals with_reducible rfl
    try simp only [Act.put, List.setIfInBounds_toArray, List.set_cons_zero, List.set_cons_succ]
    refine Reg.take_yes (i := 18) (d := some 120) (v := ?v79) rfl rfl (by kernel_rfl) (by kernel_rfl) (by kernel_rfl) (fun _ _ _ h => by cases h.1) (by rfl) ?y79 hHeld ?r79
    case y79 =>
      intro wS hS
      go_simp
      all_goals with_reducible rfl
    try simp only [Act.put, List.setIfInBounds_toArray, List.set_cons_zero, List.set_cons_succ]
    refine Reg.take_yes (i := 19) (d := some 121) (v := ?v80) rfl rfl (by kernel_rfl) (by kernel_rfl) (by kernel_rfl) (fun _ _ _ h => by cases h.1) (by rfl) ?y80 hHeld ?r80
    case y80 =>
      intro wS hS
      obtain ⟨sL, sB, s0, s1, s2, s3, s4, s5, s6, s7, s8, s9, s10, s11, s12, s13, s14, z0, z1, z2, z3, z4⟩ := hS
      go_simp
      all_goals with_reducible rfl
    try simp only [Act.put, List.setIfInBounds_toArray, List.set_cons_zero, List.set_cons_succ]
    refine Reg.take_yes (i := 20) (d := some 122) (v := ?v81) rfl rfl (by kernel_rfl) (by kernel_rfl) (by kernel_rfl) (fun _ _ _ h => by cases h.1) (by rfl) ?y81 hHeld ?r81
    case y81 =>
      intro wS hS
      obtain ⟨sL, sB, s0, s1, s2, s3, s4, s5, s6, s7, s8, s9, s10, s11, s12, s13, s14, z0, z1, z2, z3, z4⟩ := hS
      go_simp
      all_goals with_reducible rfl
    try simp only [Act.put, List.setIfInBounds_toArray, List.set_cons_zero, List.set_cons_succ]
    refine Reg.take_yes (i := 21) (d := some 123) (v := ?v82) rfl rfl (by kernel_rfl) (by kernel_rfl) (by kernel_rfl) (fun _ _ _ h => by cases h.1) (by rfl) ?y82 hHeld ?r82
    case y82 =>
      intro wS hS
      go_simp
      all_goals with_reducible rfl
    try simp only [Act.put, List.setIfInBounds_toArray, List.set_cons_zero, List.set_cons_succ]
    refine Reg.take_yes (i := 22) (d := some 124) (v := ?v83) rfl rfl (by kernel_rfl) (by kernel_rfl) (by kernel_rfl) (fun _ _ _ h => by cases h.1) (by rfl) ?y83 hHeld ?r83
    case y83 =>
      intro wS hS
      go_simp
      all_goals with_reducible rfl
    try simp only [Act.put, List.setIfInBounds_toArray, List.set_cons_zero, List.set_cons_succ]
    refine Reg.take_yes (i := 23) (d := some 125) (v := ?v84) rfl rfl (by kernel_rfl) (by kernel_rfl) (by kernel_rfl) (fun _ _ _ h => by cases h.1) (by rfl) ?y84 hHeld ?r84
    case y84 =>
      intro wS hS
      go_simp
      all_goals with_reducible rfl
    try simp only [Act.put, List.setIfInBounds_toArray, List.set_cons_zero, List.set_cons_succ]
    refine Reg.take_yes (i := 24) (d := some 126) (v := ?v85) rfl rfl (by kernel_rfl) (by kernel_rfl) (by kernel_rfl) (fun _ _ _ h => by cases h.1) (by rfl) ?y85 hHeld ?r85
    case y85 =>
      intro wS hS
      go_simp
      all_goals with_reducible rfl
    try simp only [Act.put, List.setIfInBounds_toArray, List.set_cons_zero, List.set_cons_succ]
    refine Reg.take_yes (i := 25) (d := some 127) (v := ?v86) rfl rfl (by kernel_rfl) (by kernel_rfl) (by kernel_rfl) (fun _ _ _ h => by cases h.1) (by rfl) ?y86 hHeld ?r86
    case y86 =>
      intro wS hS
      go_simp
      all_goals with_reducible rfl
    try simp only [Act.put, List.setIfInBounds_toArray, List.set_cons_zero, List.set_cons_succ]
    refine Reg.take_yes (i := 26) (d := some 128) (v := ?v87) rfl rfl (by kernel_rfl) (by kernel_rfl) (by kernel_rfl) (fun _ _ _ h => by cases h.1) (by rfl) ?y87 hHeld ?r87
    case y87 =>
      intro wS hS
      go_simp
      all_goals with_reducible rfl
    try simp only [Act.put, List.setIfInBounds_toArray, List.set_cons_zero, List.set_cons_succ]
    refine Reg.take_yes (i := 27) (d := some 129) (v := ?v88) rfl rfl (by kernel_rfl) (by kernel_rfl) (by kernel_rfl) (fun _ _ _ h => by cases h.1) (by rfl) ?y88 hHeld ?r88
    case y88 =>
      intro wS hS
      go_simp
      all_goals with_reducible rfl
    try simp only [Act.put, List.setIfInBounds_toArray, List.set_cons_zero, List.set_cons_succ]
    refine Reg.take_yes (i := 28) (d := some 130) (v := ?v89) rfl rfl (by kernel_rfl) (by kernel_rfl) (by kernel_rfl) (fun _ _ _ h => by cases h.1) (by rfl) ?y89 hHeld ?r89
    case y89 =>
      intro wS hS
      go_simp
      all_goals with_reducible rfl
    try simp only [Act.put, List.setIfInBounds_toArray, List.set_cons_zero, List.set_cons_succ]
    refine Reg.take_yes (i := 29) (d := some 131) (v := ?v90) rfl rfl (by kernel_rfl) (by kernel_rfl) (by kernel_rfl) (fun _ _ _ h => by cases h.1) (by rfl) ?y90 hHeld ?r90
    case y90 =>
      intro wS hS
      obtain ⟨sL, sB, s0, s1, s2, s3, s4, s5, s6, s7, s8, s9, s10, s11, s12, s13, s14, z0, z1, z2, z3, z4⟩ := hS
      go_simp
      all_goals with_reducible rfl
    try simp only [Act.put, List.setIfInBounds_toArray, List.set_cons_zero, List.set_cons_succ]
    refine Reg.take_yes (i := 31) (d := some 133) (v := ?v91) rfl rfl (by kernel_rfl) (by kernel_rfl) (by kernel_rfl) (fun _ _ _ h => by cases h.1) (by rfl) ?y91 hHeld ?r91
    case y91 =>
      intro wS hS
      obtain ⟨sL, sB, s0, s1, s2, s3, s4, s5, s6, s7, s8, s9, s10, s11, s12, s13, s14, z0, z1, z2, z3, z4⟩ := hS
      go_simp
      all_goals with_reducible rfl
    try simp only [Act.put, List.setIfInBounds_toArray, List.set_cons_zero, List.set_cons_succ]
    refine wpAnyH_ready (rs := [30]) (by kernel_rfl) (by simp) ?_
    refine Reg.cons_yes rfl (by rfl) (fun K hK => ?_) ?_
    · go_simp
      have hH := hHeld
      obtain ⟨sL, sB, s0, s1, s2, s3, s4, s5, s6, s7, s8, s9, s10, s11, s12, s13, s14, z0, z1, z2, z3, z4⟩ := hH
      refine Calls.mono (HM.out _ sL) ?_
      rintro e wA ⟨rfl, hb⟩
      refine hK.out _ _ (⟨sL.below hb, below_then sB sB.size hb, cell_later hb s0, cell_later hb s1, cell_later hb s2, cell_later hb s3, cell_later hb s4, cell_later hb s5, cell_later hb s6, cell_later hb s7, cell_later hb s8, cell_later hb s9, cell_later hb s10, cell_later hb s11, cell_later hb s12, cell_later hb s13, cell_later hb s14, Nat.lt_of_lt_of_le z0 hb.size, Nat.lt_of_lt_of_le z1 hb.size, Nat.lt_of_lt_of_le z2 hb.size, Nat.lt_of_lt_of_le z3 hb.size, Nat.lt_of_lt_of_le z4 hb.size⟩) (fun hHeld => ?_)
      clear hK K
      try simp only [Act.put, List.setIfInBounds_toArray, List.set_cons_zero, List.set_cons_succ]
      refine wpAnyH_ready (rs := [32]) (by kernel_rfl) (by simp) ?_
      refine Reg.cons_yes rfl (by rfl) (fun K hK => ?_) ?_
      · go_simp
        have hH := hHeld
        obtain ⟨sL, sB, s0, s1, s2, s3, s4, s5, s6, s7, s8, s9, s10, s11, s12, s13, s14, z0, z1, z2, z3, z4⟩ := hH
        refine Calls.mono (HN.out _ sL) ?_
        rintro e wA ⟨rfl, hb⟩
        refine hK.out _ _ (⟨sL.below hb, below_then sB sB.size hb, cell_later hb s0, cell_later hb s1, cell_later hb s2, cell_later hb s3, cell_later hb s4, cell_later hb s5, cell_later hb s6, cell_later hb s7, cell_later hb s8, cell_later hb s9, cell_later hb s10, cell_later hb s11, cell_later hb s12, cell_later hb s13, cell_later hb s14, Nat.lt_of_lt_of_le z0 hb.size, Nat.lt_of_lt_of_le z1 hb.size, Nat.lt_of_lt_of_le z2 hb.size, Nat.lt_of_lt_of_le z3 hb.size, Nat.lt_of_lt_of_le z4 hb.size⟩) (fun hHeld => ?_)
        clear hK K
        try simp only [Act.put, List.setIfInBounds_toArray, List.set_cons_zero, List.set_cons_succ]
        refine Reg.take_yes (i := 33) (d := some 135) (v := ?v92) rfl rfl (by kernel_rfl) (by kernel_rfl) (by kernel_rfl) (fun _ _ _ h => by cases h.1) (by rfl) ?y92 hHeld ?r92
        case y92 =>
          intro wS hS
          go_simp
          all_goals with_reducible rfl
        try simp only [Act.put, List.setIfInBounds_toArray, List.set_cons_zero, List.set_cons_succ]
        refine Reg.take_yes (i := 34) (d := some 136) (v := ?v93) rfl rfl (by kernel_rfl) (by kernel_rfl) (by kernel_rfl) (fun _ _ _ h => by cases h.1) (by rfl) ?y93 hHeld ?r93
        case y93 =>
          intro wS hS
          go_simp
          all_goals with_reducible rfl
        try simp only [Act.put, List.setIfInBounds_toArray, List.set_cons_zero, List.set_cons_succ]
        refine Reg.take_yes (i := 35) (d := some 6) (v := ?v94) rfl rfl (by kernel_rfl) (by kernel_rfl) (by kernel_rfl) (fun _ _ _ h => by cases h.1) (by rfl) ?y94 hHeld ?r94
        case y94 =>
          intro wS hS
          go_simp
          all_goals with_reducible rfl
        try simp only [Act.put, List.setIfInBounds_toArray, List.set_cons_zero, List.set_cons_succ]
        refine wpAnyH_done (by kernel_rfl) ?_ _
        refine ⟨rfl, ?_, hHeld⟩
        with_reducible rfl
      exact AllReadyH.nil
    exact AllReadyH.nil
  rintro w9 ⟨hL, hB, s0, s1, s2, s3, s4, s5, s6, s7, s8, s9, s10, s11, s12, s13, s14, z0, z1, z2, z3, z4⟩
  have hid9 := Lib.hid hB
  have P9 := Lib.hid (Own3.mk z0 s0 s1 s2)
  have A9 := Lib.hid (Own3.mk z1 s3 s4 s5)
  have B9 := Lib.hid (Own3.mk z2 s6 s7 s8)
  have C9 := Lib.hid (Own3.mk z3 s9 s10 s11)
  have D9 := Lib.hid (Own3.mk z4 s12 s13 s14)
  clear hL hB s0 s1 s2 s3 s4 s5 s6 s7 s8 s9 s10 s11 s12 s13 s14 z0 z1 z2 z3 z4
  clear eBel3 eLd3 ePBlk3 eABlk3 eBBlk3 eCBlk3 eDBlk3
  have Pq0 := P9.out.c0
  have Pq1 := P9.out.c1
  have Pq2 := P9.out.c2
  have Aq0 := A9.out.c0
  have Aq1 := A9.out.c1
  have Aq2 := A9.out.c2
  have Bq0 := B9.out.c0
  have Bq1 := B9.out.c1
  have Bq2 := B9.out.c2
  have Cq0 := C9.out.c0
  have Cq1 := C9.out.c1
  have Cq2 := C9.out.c2
  have Dq0 := D9.out.c0
  have Dq1 := D9.out.c1
  have Dq2 := D9.out.c2
  go_wp2_with fail
  go_ret
  exact ⟨rfl, hid9.out⟩
set_option maxRecDepth 100000 in
set_option maxHeartbeats 4000000 in
theorem walk_lo_no (m f o u many  : Int) (w : World) (hl : Ld w) (h1 : many < 1)
    (hx : Says 7 #[.int .i64 many] (.tuple #[.agg #[.int .i64 0, .int .u64 0, .int .u64 0], .int .i64 1]))
    (hr : Says 9 #[.agg #[.int .i64 m, .int .u64 f, .int .u64 o]] (.bool false))
    (hs : Says 10 #[.agg #[.int .i64 m, .int .u64 f, .int .u64 o]] (.bool false)) :
    Calls Tryd.prog 3 #[.agg #[.int .i64 m, .int .u64 f, .int .u64 o], .int .u64 u, .int .i64 many] w fun e w' => e = .returned (.bool true) ∧ Below w.heap.size w w' := by
  have HX := Lib.hid hx
  have HR := Lib.hid hr
  have HS := Lib.hid hs
  clear hx hr hs
  have h1b : decide (1 ≤ many) = false := decide_eq_false (by omega)
  have HL := Lib.hid hl
  have hid0 := Lib.hid (Below.refl w.heap.size w)
  clear hl
  go_enter Tryd.func3, Tryd.ntmps3
  go_wp2_with fail
  refine (atlaslaw18_awake.calls true _ (HL.out.below (below_alloc hid0.out _)) rfl).mono ?_
  rintro e w1 ⟨rfl, hb⟩
  have hid1 := Lib.hid (below_then (below_alloc hid0.out _) (below_alloc hid0.out _).size hb)
  have P1 := Lib.hid ((Own3.new w (.int .i64 m) (.int .u64 f) (.int .u64 o) 24).below hb)
  clear hb hid0 
  have Pq0 := P1.out.c0
  have Pq1 := P1.out.c1
  have Pq2 := P1.out.c2
  go_wp2_with fail
  clear Pq0 Pq1 Pq2
  refine (HX.out _ (HL.out.below hid1.out)).mono ?_
  rintro e w2 ⟨rfl, hb⟩
  have hid2 := Lib.hid (below_then hid1.out hid1.out.size hb)
  have P2 := Lib.hid (P1.out.below hb)
  clear hb hid1 P1
  have Pq0 := P2.out.c0
  have Pq1 := P2.out.c1
  have Pq2 := P2.out.c2
  go_wp2_with fail
  clear Pq0 Pq1 Pq2
  have eBel1 := Lib.hid (fun o => (below_alloc hid2.out o).drew)
  have eLd1 := Lib.hid (fun o => HL.out.below (eBel1.out o))
  have ePBlk1 := Lib.hid (fun o => (P2.out.alloc o).below (Below.refl _ _).drew)
  have eXBlk1 := Lib.hid ((Own3.new w2 (.int .i64 0) (.int .u64 0) (.int .u64 0) 24).below (Below.refl _ _).drew)
  clear hid2 P2
  refine Reg.cut (S := (fun w' => Ld w' ∧ Below w.heap.size w w' ∧ w'.cell? ⟨w.heap.size, 0, none⟩ = some (.int .i64 m) ∧ w'.cell? ⟨w.heap.size, 1, none⟩ = some (.int .u64 f) ∧ w'.cell? ⟨w.heap.size, 2, none⟩ = some (.int .u64 o) ∧ w'.cell? ⟨w2.heap.size, 0, none⟩ = some (.int .i64 0) ∧ w'.cell? ⟨w2.heap.size, 1, none⟩ = some (.int .u64 0) ∧ w'.cell? ⟨w2.heap.size, 2, none⟩ = some (.int .u64 0) ∧ w.heap.size < w'.heap.size ∧ w2.heap.size < w'.heap.size)) (A := ?hA95) ?hreg95 ?hrest95
  case hreg95 =>
    refine wp_region_held_drew (S := (fun w' => Ld w' ∧ Below w.heap.size w w' ∧ w'.cell? ⟨w.heap.size, 0, none⟩ = some (.int .i64 m) ∧ w'.cell? ⟨w.heap.size, 1, none⟩ = some (.int .u64 f) ∧ w'.cell? ⟨w.heap.size, 2, none⟩ = some (.int .u64 o) ∧ w'.cell? ⟨w2.heap.size, 0, none⟩ = some (.int .i64 0) ∧ w'.cell? ⟨w2.heap.size, 1, none⟩ = some (.int .u64 0) ∧ w'.cell? ⟨w2.heap.size, 2, none⟩ = some (.int .u64 0) ∧ w.heap.size < w'.heap.size ∧ w2.heap.size < w'.heap.size)) (by kernel_rfl) (⟨eLd1.out _, eBel1.out _, (ePBlk1.out _).c0, (ePBlk1.out _).c1, (ePBlk1.out _).c2, (eXBlk1.out).c0, (eXBlk1.out).c1, (eXBlk1.out).c2, (ePBlk1.out _).lt, (eXBlk1.out).lt⟩) (fun hHeld => ?_)
    refine Reg.take_yes (i := 0) (d := some 35) (v := ?v96) rfl rfl (by kernel_rfl) (by kernel_rfl) (by kernel_rfl) (fun _ _ _ h => by cases h.1) (by rfl) ?y96 hHeld ?r96
    case y96 =>
      intro wS hS
      go_simp
      all_goals with_reducible rfl
    try simp only [Act.put, List.setIfInBounds_toArray, List.set_cons_zero, List.set_cons_succ]
    refine Reg.take_yes (i := 1) (d := some 36) (v := ?v97) rfl rfl (by kernel_rfl) (by kernel_rfl) (by kernel_rfl) (fun _ _ _ h => by cases h.1) (by rfl) ?y97 hHeld ?r97
    case y97 =>
      intro wS hS
      go_simp
      all_goals with_reducible rfl
    try simp only [Act.put, List.setIfInBounds_toArray, List.set_cons_zero, List.set_cons_succ]
    refine Reg.take_yes (i := 2) (d := some 37) (v := ?v98) rfl rfl (by kernel_rfl) (by kernel_rfl) (by kernel_rfl) (fun _ _ _ h => by cases h.1) (by rfl) ?y98 hHeld ?r98
    case y98 =>
      intro wS hS
      go_simp
      all_goals with_reducible rfl
    try simp only [Act.put, List.setIfInBounds_toArray, List.set_cons_zero, List.set_cons_succ]
    refine Reg.take_yes (i := 3) (d := some 38) (v := ?v99) rfl rfl (by kernel_rfl) (by kernel_rfl) (by kernel_rfl) (fun _ _ _ h => by cases h.1) (by rfl) ?y99 hHeld ?r99
    case y99 =>
      intro wS hS
      go_simp
      all_goals with_reducible rfl
    try simp only [Act.put, List.setIfInBounds_toArray, List.set_cons_zero, List.set_cons_succ]
    refine Reg.take_yes (i := 4) (d := some 39) (v := ?v100) rfl rfl (by kernel_rfl) (by kernel_rfl) (by kernel_rfl) (fun _ _ _ h => by cases h.1) (by rfl) ?y100 hHeld ?r100
    case y100 =>
      intro wS hS
      go_simp
      all_goals with_reducible rfl
    try simp only [Act.put, List.setIfInBounds_toArray, List.set_cons_zero, List.set_cons_succ]
    refine Reg.take_yes (i := 5) (d := some 40) (v := ?v101) rfl rfl (by kernel_rfl) (by kernel_rfl) (by kernel_rfl) (fun _ _ _ h => by cases h.1) (by rfl) ?y101 hHeld ?r101
    case y101 =>
      intro wS hS
      go_simp
      all_goals with_reducible rfl
    try simp only [Act.put, List.setIfInBounds_toArray, List.set_cons_zero, List.set_cons_succ]
    refine Reg.take_yes (i := 6) (d := some 41) (v := ?v102) rfl rfl (by kernel_rfl) (by kernel_rfl) (by kernel_rfl) (fun _ _ _ h => by cases h.1) (by rfl) ?y102 hHeld ?r102
    case y102 =>
      intro wS hS
      go_simp
      all_goals with_reducible rfl
    try simp only [Act.put, List.setIfInBounds_toArray, List.set_cons_zero, List.set_cons_succ]
    refine Reg.take_no (i := 7) (d := some 42) rfl rfl (by kernel_rfl) (by kernel_rfl) (by kernel_rfl) (fun _ _ _ h => by cases h.1) (by rfl) hHeld ?_
    try simp only [Act.put, List.setIfInBounds_toArray, List.set_cons_zero, List.set_cons_succ]
    refine Reg.take_no (i := 8) (d := some 43) rfl rfl (by kernel_rfl) (by kernel_rfl) (by kernel_rfl) (fun _ _ _ h => by cases h.1) (by rfl) hHeld ?_
    try simp only [Act.put, List.setIfInBounds_toArray, List.set_cons_zero, List.set_cons_succ]
    refine Reg.take_no (i := 9) (d := some 44) rfl rfl (by kernel_rfl) (by kernel_rfl) (by kernel_rfl) (fun _ _ _ h => by cases h.1) (by rfl) hHeld ?_
    try simp only [Act.put, List.setIfInBounds_toArray, List.set_cons_zero, List.set_cons_succ]
    refine Reg.take_no (i := 10) (d := some 45) rfl rfl (by kernel_rfl) (by kernel_rfl) (by kernel_rfl) (fun _ _ _ h => by cases h.1) (by rfl) hHeld ?_
    try simp only [Act.put, List.setIfInBounds_toArray, List.set_cons_zero, List.set_cons_succ]
    refine Reg.take_yes (i := 11) (d := some 46) (v := ?v103) rfl rfl (by kernel_rfl) (by kernel_rfl) (by kernel_rfl) (fun _ _ _ h => by cases h.1) (by rfl) ?y103 hHeld ?r103
    case y103 =>
      intro wS hS
      go_simp
      all_goals with_reducible rfl
    try simp only [Act.put, List.setIfInBounds_toArray, List.set_cons_zero, List.set_cons_succ]
    refine Reg.take_yes (i := 12) (d := some 47) (v := ?v104) rfl rfl (by kernel_rfl) (by kernel_rfl) (by kernel_rfl) (fun _ _ _ h => by cases h.1) (by rfl) ?y104 hHeld ?r104
    case y104 =>
      intro wS hS
      go_simp
      all_goals with_reducible rfl
    try simp only [Act.put, List.setIfInBounds_toArray, List.set_cons_zero, List.set_cons_succ]
    refine Reg.take_yes (i := 13) (d := some 48) (v := ?v105) rfl rfl (by kernel_rfl) (by kernel_rfl) (by kernel_rfl) (fun _ _ _ h => by cases h.1) (by rfl) ?y105 hHeld ?r105
    case y105 =>
      intro wS hS
      go_simp
      all_goals with_reducible rfl
    try simp only [Act.put, List.setIfInBounds_toArray, List.set_cons_zero, List.set_cons_succ]
    refine Reg.take_yes (i := 14) (d := some 49) (v := ?v106) rfl rfl (by kernel_rfl) (by kernel_rfl) (by kernel_rfl) (fun _ _ _ h => by cases h.1) (by rfl) ?y106 hHeld ?r106
    case y106 =>
      intro wS hS
      go_simp
      all_goals with_reducible rfl
    try simp only [Act.put, List.setIfInBounds_toArray, List.set_cons_zero, List.set_cons_succ]
    refine Reg.take_yes (i := 15) (d := some 50) (v := ?v107) rfl rfl (by kernel_rfl) (by kernel_rfl) (by kernel_rfl) (fun _ _ _ h => by cases h.1) (by rfl) ?y107 hHeld ?r107
    case y107 =>
      intro wS hS
      go_simp
      all_goals with_reducible rfl
    try simp only [Act.put, List.setIfInBounds_toArray, List.set_cons_zero, List.set_cons_succ]
    refine Reg.take_yes (i := 16) (d := some 51) (v := ?v108) rfl rfl (by kernel_rfl) (by kernel_rfl) (by kernel_rfl) (fun _ _ _ h => by cases h.1) (by rfl) ?y108 hHeld ?r108
    case y108 =>
      intro wS hS
      go_simp
      all_goals with_reducible rfl
    try simp only [Act.put, List.setIfInBounds_toArray, List.set_cons_zero, List.set_cons_succ]
    refine Reg.take_yes (i := 17) (d := some 52) (v := ?v109) rfl rfl (by kernel_rfl) (by kernel_rfl) (by kernel_rfl) (fun _ _ _ h => by cases h.1) (by rfl) ?y109 hHeld ?r109
    case y109 =>
      intro wS hS
      go_simp
      all_goals with_reducible rfl
    try simp only [Act.put, List.setIfInBounds_toArray, List.set_cons_zero, List.set_cons_succ]
    refine Reg.take_yes (i := 18) (d := some 53) (v := ?v110) rfl rfl (by kernel_rfl) (by kernel_rfl) (by kernel_rfl) (fun _ _ _ h => by cases h.1) (by rfl) ?y110 hHeld ?r110
    case y110 =>
      intro wS hS
      go_simp
      all_goals with_reducible rfl
    try simp only [Act.put, List.setIfInBounds_toArray, List.set_cons_zero, List.set_cons_succ]
    refine Reg.take_yes (i := 19) (d := some 54) (v := ?v111) rfl rfl (by kernel_rfl) (by kernel_rfl) (by kernel_rfl) (fun _ _ _ h => by cases h.1) (by rfl) ?y111 hHeld ?r111
    case y111 =>
      intro wS hS
      go_simp
      all_goals with_reducible rfl
    try simp only [Act.put, List.setIfInBounds_toArray, List.set_cons_zero, List.set_cons_succ]
    refine Reg.take_yes (i := 20) (d := some 55) (v := ?v112) rfl rfl (by kernel_rfl) (by kernel_rfl) (by kernel_rfl) (fun _ _ _ h => by cases h.1) (by rfl) ?y112 hHeld ?r112
    case y112 =>
      intro wS hS
      obtain ⟨sL, sB, s0, s1, s2, s3, s4, s5, z0, z1⟩ := hS
      go_simp
      all_goals with_reducible rfl
    try simp only [Act.put, List.setIfInBounds_toArray, List.set_cons_zero, List.set_cons_succ]
    refine Reg.take_yes (i := 21) (d := some 56) (v := ?v113) rfl rfl (by kernel_rfl) (by kernel_rfl) (by kernel_rfl) (fun _ _ _ h => by cases h.1) (by rfl) ?y113 hHeld ?r113
    case y113 =>
      intro wS hS
      go_simp
      all_goals with_reducible rfl
    try simp only [Act.put, List.setIfInBounds_toArray, List.set_cons_zero, List.set_cons_succ]
    refine Reg.take_yes (i := 22) (d := some 57) (v := ?v114) rfl rfl (by kernel_rfl) (by kernel_rfl) (by kernel_rfl) (fun _ _ _ h => by cases h.1) (by rfl) ?y114 hHeld ?r114
    case y114 =>
      intro wS hS
      go_simp
      all_goals with_reducible rfl
    try simp only [Act.put, List.setIfInBounds_toArray, List.set_cons_zero, List.set_cons_succ]
    refine Reg.take_yes (i := 23) (d := some 58) (v := ?v115) rfl rfl (by kernel_rfl) (by kernel_rfl) (by kernel_rfl) (fun _ _ _ h => by cases h.1) (by rfl) ?y115 hHeld ?r115
    case y115 =>
      intro wS hS
      go_simp
      all_goals with_reducible rfl
    try simp only [Act.put, List.setIfInBounds_toArray, List.set_cons_zero, List.set_cons_succ]
    refine Reg.take_yes (i := 24) (d := some 59) (v := ?v116) rfl rfl (by kernel_rfl) (by kernel_rfl) (by kernel_rfl) (fun _ _ _ h => by cases h.1) (by rfl) ?y116 hHeld ?r116
    case y116 =>
      intro wS hS
      go_simp
      all_goals with_reducible rfl
    try simp only [Act.put, List.setIfInBounds_toArray, List.set_cons_zero, List.set_cons_succ]
    refine Reg.take_yes (i := 25) (d := some 60) (v := ?v117) rfl rfl (by kernel_rfl) (by kernel_rfl) (by kernel_rfl) (fun _ _ _ h => by cases h.1) (by rfl) ?y117 hHeld ?r117
    case y117 =>
      intro wS hS
      go_simp
      all_goals with_reducible rfl
    try simp only [Act.put, List.setIfInBounds_toArray, List.set_cons_zero, List.set_cons_succ]
    refine wpAnyH_done (by kernel_rfl) ?_ _
    refine ⟨rfl, ?_, hHeld⟩
    with_reducible rfl
  rintro w3 ⟨hL, hB, s0, s1, s2, s3, s4, s5, z0, z1⟩
  have hid3 := Lib.hid hB
  have P3 := Lib.hid (Own3.mk z0 s0 s1 s2)
  clear hL hB s0 s1 s2 s3 s4 s5 z0 z1
  clear eBel1 eLd1 ePBlk1 eXBlk1
  have Pq0 := P3.out.c0
  have Pq1 := P3.out.c1
  have Pq2 := P3.out.c2
  go_wp2_with fail
  clear Pq0 Pq1 Pq2
  have eBel2 := Lib.hid ((hid3.out).drew)
  have eLd2 := Lib.hid (HL.out.below (eBel2.out))
  have ePBlk2 := Lib.hid ((P3.out).below (Below.refl _ _).drew)
  clear hid3 P3
  refine Reg.cut (S := (fun w' => Ld w' ∧ Below w.heap.size w w' ∧ w'.cell? ⟨w.heap.size, 0, none⟩ = some (.int .i64 m) ∧ w'.cell? ⟨w.heap.size, 1, none⟩ = some (.int .u64 f) ∧ w'.cell? ⟨w.heap.size, 2, none⟩ = some (.int .u64 o) ∧ w.heap.size < w'.heap.size)) (A := ?hA118) ?hreg118 ?hrest118
  case hreg118 =>
    refine wp_region_held_drew (S := (fun w' => Ld w' ∧ Below w.heap.size w w' ∧ w'.cell? ⟨w.heap.size, 0, none⟩ = some (.int .i64 m) ∧ w'.cell? ⟨w.heap.size, 1, none⟩ = some (.int .u64 f) ∧ w'.cell? ⟨w.heap.size, 2, none⟩ = some (.int .u64 o) ∧ w.heap.size < w'.heap.size)) (by kernel_rfl) (⟨eLd2.out, eBel2.out, (ePBlk2.out).c0, (ePBlk2.out).c1, (ePBlk2.out).c2, (ePBlk2.out).lt⟩) (fun hHeld => ?_)
    refine Reg.take_yes (i := 0) (d := some 61) (v := ?v119) rfl rfl (by kernel_rfl) (by kernel_rfl) (by kernel_rfl) (fun _ _ _ h => by cases h.1) (by rfl) ?y119 hHeld ?r119
    case y119 =>
      intro wS hS
      obtain ⟨sL, sB, s0, s1, s2, z0⟩ := hS
      go_simp
      all_goals with_reducible rfl
    try simp only [Act.put, List.setIfInBounds_toArray, List.set_cons_zero, List.set_cons_succ]
    refine Reg.take_yes (i := 2) (d := some 63) (v := ?v120) rfl rfl (by kernel_rfl) (by kernel_rfl) (by kernel_rfl) (fun _ _ _ h => by cases h.1) (by rfl) ?y120 hHeld ?r120
    case y120 =>
      intro wS hS
      obtain ⟨sL, sB, s0, s1, s2, z0⟩ := hS
      go_simp
      all_goals with_reducible rfl
    try simp only [Act.put, List.setIfInBounds_toArray, List.set_cons_zero, List.set_cons_succ]
    refine wpAnyH_ready (rs := [1]) (by kernel_rfl) (by simp) ?_
    refine Reg.cons_yes rfl (by rfl) (fun K hK => ?_) ?_
    · go_simp
      have hH := hHeld
      obtain ⟨sL, sB, s0, s1, s2, z0⟩ := hH
      refine Calls.mono (HR.out _ sL) ?_
      rintro e wA ⟨rfl, hb⟩
      refine hK.out _ _ (⟨sL.below hb, below_then sB sB.size hb, cell_later hb s0, cell_later hb s1, cell_later hb s2, Nat.lt_of_lt_of_le z0 hb.size⟩) (fun hHeld => ?_)
      clear hK K
      try simp only [Act.put, List.setIfInBounds_toArray, List.set_cons_zero, List.set_cons_succ]
      refine wpAnyH_ready (rs := [3]) (by kernel_rfl) (by simp) ?_
      refine Reg.cons_yes rfl (by rfl) (fun K hK => ?_) ?_
      · go_simp
        have hH := hHeld
        obtain ⟨sL, sB, s0, s1, s2, z0⟩ := hH
        refine Calls.mono (HS.out _ sL) ?_
        rintro e wA ⟨rfl, hb⟩
        refine hK.out _ _ (⟨sL.below hb, below_then sB sB.size hb, cell_later hb s0, cell_later hb s1, cell_later hb s2, Nat.lt_of_lt_of_le z0 hb.size⟩) (fun hHeld => ?_)
        clear hK K
        try simp only [Act.put, List.setIfInBounds_toArray, List.set_cons_zero, List.set_cons_succ]
        refine Reg.take_yes (i := 4) (d := some 65) (v := ?v121) rfl rfl (by kernel_rfl) (by kernel_rfl) (by kernel_rfl) (fun _ _ _ h => by cases h.1) (by rfl) ?y121 hHeld ?r121
        case y121 =>
          intro wS hS
          go_simp
          all_goals with_reducible rfl
        try simp only [Act.put, List.setIfInBounds_toArray, List.set_cons_zero, List.set_cons_succ]
        refine Reg.take_yes (i := 5) (d := some 66) (v := ?v122) rfl rfl (by kernel_rfl) (by kernel_rfl) (by kernel_rfl) (fun _ _ _ h => by cases h.1) (by rfl) ?y122 hHeld ?r122
        case y122 =>
          intro wS hS
          go_simp
          all_goals with_reducible rfl
        try simp only [Act.put, List.setIfInBounds_toArray, List.set_cons_zero, List.set_cons_succ]
        refine Reg.take_yes (i := 6) (d := some 67) (v := ?v123) rfl rfl (by kernel_rfl) (by kernel_rfl) (by kernel_rfl) (fun _ _ _ h => by cases h.1) (by rfl) ?y123 hHeld ?r123
        case y123 =>
          intro wS hS
          obtain ⟨sL, sB, s0, s1, s2, z0⟩ := hS
          go_simp
          all_goals with_reducible rfl
        try simp only [Act.put, List.setIfInBounds_toArray, List.set_cons_zero, List.set_cons_succ]
        refine wpAnyH_ready (rs := [7]) (by kernel_rfl) (by simp) ?_
        refine Reg.cons_yes rfl (by rfl) (fun K hK => ?_) ?_
        · go_simp
          have hH := hHeld
          obtain ⟨sL, sB, s0, s1, s2, z0⟩ := hH
          refine Calls.mono (HS.out _ sL) ?_
          rintro e wA ⟨rfl, hb⟩
          refine hK.out _ _ (⟨sL.below hb, below_then sB sB.size hb, cell_later hb s0, cell_later hb s1, cell_later hb s2, Nat.lt_of_lt_of_le z0 hb.size⟩) (fun hHeld => ?_)
          clear hK K
          try simp only [Act.put, List.setIfInBounds_toArray, List.set_cons_zero, List.set_cons_succ]
          refine Reg.take_yes (i := 8) (d := some 69) (v := ?v124) rfl rfl (by kernel_rfl) (by kernel_rfl) (by kernel_rfl) (fun _ _ _ h => by cases h.1) (by rfl) ?y124 hHeld ?r124
          case y124 =>
            intro wS hS
            go_simp
            all_goals with_reducible rfl
          try simp only [Act.put, List.setIfInBounds_toArray, List.set_cons_zero, List.set_cons_succ]
          refine Reg.take_yes (i := 9) (d := some 70) (v := ?v125) rfl rfl (by kernel_rfl) (by kernel_rfl) (by kernel_rfl) (fun _ _ _ h => by cases h.1) (by rfl) ?y125 hHeld ?r125
          case y125 =>
            intro wS hS
            go_simp
            all_goals with_reducible rfl
          try simp only [Act.put, List.setIfInBounds_toArray, List.set_cons_zero, List.set_cons_succ]
          refine wpAnyH_done (by kernel_rfl) ?_ _
          refine ⟨rfl, ?_, hHeld⟩
          with_reducible rfl
        exact AllReadyH.nil
      exact AllReadyH.nil
    exact AllReadyH.nil
  rintro w4 ⟨hL, hB, s0, s1, s2, z0⟩
  have hid4 := Lib.hid hB
  have P4 := Lib.hid (Own3.mk z0 s0 s1 s2)
  clear hL hB s0 s1 s2 z0
  clear eBel2 eLd2 ePBlk2
  have Pq0 := P4.out.c0
  have Pq1 := P4.out.c1
  have Pq2 := P4.out.c2
  go_wp2_with fail
  clear Pq0 Pq1 Pq2
  have eBel3 := Lib.hid ((hid4.out).drew)
  have eLd3 := Lib.hid (HL.out.below (eBel3.out))
  have ePBlk3 := Lib.hid ((P4.out).below (Below.refl _ _).drew)
  clear hid4 P4
  refine Reg.cut (S := (fun w' => Ld w' ∧ Below w.heap.size w w' ∧ w'.cell? ⟨w.heap.size, 0, none⟩ = some (.int .i64 m) ∧ w'.cell? ⟨w.heap.size, 1, none⟩ = some (.int .u64 f) ∧ w'.cell? ⟨w.heap.size, 2, none⟩ = some (.int .u64 o) ∧ w.heap.size < w'.heap.size)) (A := ?hA126) ?hreg126 ?hrest126
  case hreg126 =>
    refine wp_region_held_drew (S := (fun w' => Ld w' ∧ Below w.heap.size w w' ∧ w'.cell? ⟨w.heap.size, 0, none⟩ = some (.int .i64 m) ∧ w'.cell? ⟨w.heap.size, 1, none⟩ = some (.int .u64 f) ∧ w'.cell? ⟨w.heap.size, 2, none⟩ = some (.int .u64 o) ∧ w.heap.size < w'.heap.size)) (by kernel_rfl) (⟨eLd3.out, eBel3.out, (ePBlk3.out).c0, (ePBlk3.out).c1, (ePBlk3.out).c2, (ePBlk3.out).lt⟩) (fun hHeld => ?_)
    refine Reg.take_yes (i := 0) (d := some 71) (v := ?v127) rfl rfl (by kernel_rfl) (by kernel_rfl) (by kernel_rfl) (fun _ _ _ h => by cases h.1) (by rfl) ?y127 hHeld ?r127
    case y127 =>
      intro wS hS
      obtain ⟨sL, sB, s0, s1, s2, z0⟩ := hS
      go_simp
      all_goals with_reducible rfl
    try simp only [Act.put, List.setIfInBounds_toArray, List.set_cons_zero, List.set_cons_succ]
    refine Reg.take_yes (i := 2) (d := some 73) (v := ?v128) rfl rfl (by kernel_rfl) (by kernel_rfl) (by kernel_rfl) (fun _ _ _ h => by cases h.1) (by rfl) ?y128 hHeld ?r128
    case y128 =>
      intro wS hS
      obtain ⟨sL, sB, s0, s1, s2, z0⟩ := hS
      go_simp
      all_goals with_reducible rfl
    try simp only [Act.put, List.setIfInBounds_toArray, List.set_cons_zero, List.set_cons_succ]
    refine wpAnyH_ready (rs := [1]) (by kernel_rfl) (by simp) ?_
    refine Reg.cons_yes rfl (by rfl) (fun K hK => ?_) ?_
    · go_simp
      have hH := hHeld
      obtain ⟨sL, sB, s0, s1, s2, z0⟩ := hH
      refine Calls.mono (HR.out _ sL) ?_
      rintro e wA ⟨rfl, hb⟩
      refine hK.out _ _ (⟨sL.below hb, below_then sB sB.size hb, cell_later hb s0, cell_later hb s1, cell_later hb s2, Nat.lt_of_lt_of_le z0 hb.size⟩) (fun hHeld => ?_)
      clear hK K
      try simp only [Act.put, List.setIfInBounds_toArray, List.set_cons_zero, List.set_cons_succ]
      refine wpAnyH_ready (rs := [3]) (by kernel_rfl) (by simp) ?_
      refine Reg.cons_yes rfl (by rfl) (fun K hK => ?_) ?_
      · go_simp
        have hH := hHeld
        obtain ⟨sL, sB, s0, s1, s2, z0⟩ := hH
        refine Calls.mono (HS.out _ sL) ?_
        rintro e wA ⟨rfl, hb⟩
        refine hK.out _ _ (⟨sL.below hb, below_then sB sB.size hb, cell_later hb s0, cell_later hb s1, cell_later hb s2, Nat.lt_of_lt_of_le z0 hb.size⟩) (fun hHeld => ?_)
        clear hK K
        try simp only [Act.put, List.setIfInBounds_toArray, List.set_cons_zero, List.set_cons_succ]
        refine Reg.take_yes (i := 4) (d := some 75) (v := ?v129) rfl rfl (by kernel_rfl) (by kernel_rfl) (by kernel_rfl) (fun _ _ _ h => by cases h.1) (by rfl) ?y129 hHeld ?r129
        case y129 =>
          intro wS hS
          go_simp
          all_goals with_reducible rfl
        try simp only [Act.put, List.setIfInBounds_toArray, List.set_cons_zero, List.set_cons_succ]
        refine Reg.take_yes (i := 5) (d := some 6) (v := ?v130) rfl rfl (by kernel_rfl) (by kernel_rfl) (by kernel_rfl) (fun _ _ _ h => by cases h.1) (by rfl) ?y130 hHeld ?r130
        case y130 =>
          intro wS hS
          go_simp
          all_goals with_reducible rfl
        try simp only [Act.put, List.setIfInBounds_toArray, List.set_cons_zero, List.set_cons_succ]
        refine wpAnyH_done (by kernel_rfl) ?_ _
        refine ⟨rfl, ?_, hHeld⟩
        with_reducible rfl
      exact AllReadyH.nil
    exact AllReadyH.nil
  rintro w5 ⟨hL, hB, s0, s1, s2, z0⟩
  have hid5 := Lib.hid hB
  have P5 := Lib.hid (Own3.mk z0 s0 s1 s2)
  clear hL hB s0 s1 s2 z0
  clear eBel3 eLd3 ePBlk3
  have Pq0 := P5.out.c0
  have Pq1 := P5.out.c1
  have Pq2 := P5.out.c2
  go_wp2_with fail
  go_ret
  exact ⟨rfl, hid5.out⟩
set_option maxRecDepth 100000 in
set_option maxHeartbeats 4000000 in
theorem walk_lo_yes (m f o u many t0 t1 t2 x er g0 g1 g2 g c : Int) (was : Bool) (w : World) (hl : Ld w) (h1 : many < 1)
    (hx : Says 7 #[.int .i64 many] (.tuple #[.agg #[.int .i64 0, .int .u64 0, .int .u64 0], .int .i64 1]))
    (hr : Says 9 #[.agg #[.int .i64 m, .int .u64 f, .int .u64 o]] (.bool true))
    (hs : Says 10 #[.agg #[.int .i64 m, .int .u64 f, .int .u64 o]] (.bool true))
    (ht : Says 11 #[.agg #[.int .i64 m, .int .u64 f, .int .u64 o]] (.tuple #[.agg #[.int .i64 t0, .int .u64 t1, .int .u64 t2], .int .u64 x, .bool was, .int .i64 er]))
    (hu : Says 12 #[.agg #[.int .i64 m, .int .u64 f, .int .u64 o]] (.tuple #[.agg #[.int .i64 t0, .int .u64 t1, .int .u64 t2], .int .u64 x, .bool was, .int .i64 er]))
    (hg : Says 13 #[.agg #[.int .i64 m, .int .u64 f, .int .u64 o], .int .u64 u] (.tuple #[.agg #[.int .i64 g0, .int .u64 g1, .int .u64 g2], .int .i64 g]))
    (hh : Says 14 #[.agg #[.int .i64 m, .int .u64 f, .int .u64 o], .int .u64 u] (.tuple #[.agg #[.int .i64 g0, .int .u64 g1, .int .u64 g2], .int .i64 g]))
    (hm : Says 15 #[.agg #[.int .i64 m, .int .u64 f, .int .u64 o]] (.int .i64 c))
    (hn : Says 16 #[.agg #[.int .i64 m, .int .u64 f, .int .u64 o]] (.int .i64 c)) :
    Calls Tryd.prog 3 #[.agg #[.int .i64 m, .int .u64 f, .int .u64 o], .int .u64 u, .int .i64 many] w fun e w' => e = .returned (.bool true) ∧ Below w.heap.size w w' := by
  have HX := Lib.hid hx
  have HR := Lib.hid hr
  have HS := Lib.hid hs
  have HT := Lib.hid ht
  have HU := Lib.hid hu
  have HG := Lib.hid hg
  have HH := Lib.hid hh
  have HM := Lib.hid hm
  have HN := Lib.hid hn
  clear hx hr hs ht hu hg hh hm hn
  have h1b : decide (1 ≤ many) = false := decide_eq_false (by omega)
  have HL := Lib.hid hl
  have hid0 := Lib.hid (Below.refl w.heap.size w)
  clear hl
  go_enter Tryd.func3, Tryd.ntmps3
  go_wp2_with fail
  refine (atlaslaw18_awake.calls true _ (HL.out.below (below_alloc hid0.out _)) rfl).mono ?_
  rintro e w1 ⟨rfl, hb⟩
  have hid1 := Lib.hid (below_then (below_alloc hid0.out _) (below_alloc hid0.out _).size hb)
  have P1 := Lib.hid ((Own3.new w (.int .i64 m) (.int .u64 f) (.int .u64 o) 24).below hb)
  clear hb hid0 
  have Pq0 := P1.out.c0
  have Pq1 := P1.out.c1
  have Pq2 := P1.out.c2
  go_wp2_with fail
  clear Pq0 Pq1 Pq2
  refine (HX.out _ (HL.out.below hid1.out)).mono ?_
  rintro e w2 ⟨rfl, hb⟩
  have hid2 := Lib.hid (below_then hid1.out hid1.out.size hb)
  have P2 := Lib.hid (P1.out.below hb)
  clear hb hid1 P1
  have Pq0 := P2.out.c0
  have Pq1 := P2.out.c1
  have Pq2 := P2.out.c2
  go_wp2_with fail
  clear Pq0 Pq1 Pq2
  have eBel1 := Lib.hid (fun o => (below_alloc hid2.out o).drew)
  have eLd1 := Lib.hid (fun o => HL.out.below (eBel1.out o))
  have ePBlk1 := Lib.hid (fun o => (P2.out.alloc o).below (Below.refl _ _).drew)
  have eXBlk1 := Lib.hid ((Own3.new w2 (.int .i64 0) (.int .u64 0) (.int .u64 0) 24).below (Below.refl _ _).drew)
  clear hid2 P2
  refine Reg.cut (S := (fun w' => Ld w' ∧ Below w.heap.size w w' ∧ w'.cell? ⟨w.heap.size, 0, none⟩ = some (.int .i64 m) ∧ w'.cell? ⟨w.heap.size, 1, none⟩ = some (.int .u64 f) ∧ w'.cell? ⟨w.heap.size, 2, none⟩ = some (.int .u64 o) ∧ w'.cell? ⟨w2.heap.size, 0, none⟩ = some (.int .i64 0) ∧ w'.cell? ⟨w2.heap.size, 1, none⟩ = some (.int .u64 0) ∧ w'.cell? ⟨w2.heap.size, 2, none⟩ = some (.int .u64 0) ∧ w.heap.size < w'.heap.size ∧ w2.heap.size < w'.heap.size)) (A := ?hA131) ?hreg131 ?hrest131
  case hreg131 =>
    refine wp_region_held_drew (S := (fun w' => Ld w' ∧ Below w.heap.size w w' ∧ w'.cell? ⟨w.heap.size, 0, none⟩ = some (.int .i64 m) ∧ w'.cell? ⟨w.heap.size, 1, none⟩ = some (.int .u64 f) ∧ w'.cell? ⟨w.heap.size, 2, none⟩ = some (.int .u64 o) ∧ w'.cell? ⟨w2.heap.size, 0, none⟩ = some (.int .i64 0) ∧ w'.cell? ⟨w2.heap.size, 1, none⟩ = some (.int .u64 0) ∧ w'.cell? ⟨w2.heap.size, 2, none⟩ = some (.int .u64 0) ∧ w.heap.size < w'.heap.size ∧ w2.heap.size < w'.heap.size)) (by kernel_rfl) (⟨eLd1.out _, eBel1.out _, (ePBlk1.out _).c0, (ePBlk1.out _).c1, (ePBlk1.out _).c2, (eXBlk1.out).c0, (eXBlk1.out).c1, (eXBlk1.out).c2, (ePBlk1.out _).lt, (eXBlk1.out).lt⟩) (fun hHeld => ?_)
    refine Reg.take_yes (i := 0) (d := some 35) (v := ?v132) rfl rfl (by kernel_rfl) (by kernel_rfl) (by kernel_rfl) (fun _ _ _ h => by cases h.1) (by rfl) ?y132 hHeld ?r132
    case y132 =>
      intro wS hS
      go_simp
      all_goals with_reducible rfl
    try simp only [Act.put, List.setIfInBounds_toArray, List.set_cons_zero, List.set_cons_succ]
    refine Reg.take_yes (i := 1) (d := some 36) (v := ?v133) rfl rfl (by kernel_rfl) (by kernel_rfl) (by kernel_rfl) (fun _ _ _ h => by cases h.1) (by rfl) ?y133 hHeld ?r133
    case y133 =>
      intro wS hS
      go_simp
      all_goals with_reducible rfl
    try simp only [Act.put, List.setIfInBounds_toArray, List.set_cons_zero, List.set_cons_succ]
    refine Reg.take_yes (i := 2) (d := some 37) (v := ?v134) rfl rfl (by kernel_rfl) (by kernel_rfl) (by kernel_rfl) (fun _ _ _ h => by cases h.1) (by rfl) ?y134 hHeld ?r134
    case y134 =>
      intro wS hS
      go_simp
      all_goals with_reducible rfl
    try simp only [Act.put, List.setIfInBounds_toArray, List.set_cons_zero, List.set_cons_succ]
    refine Reg.take_yes (i := 3) (d := some 38) (v := ?v135) rfl rfl (by kernel_rfl) (by kernel_rfl) (by kernel_rfl) (fun _ _ _ h => by cases h.1) (by rfl) ?y135 hHeld ?r135
    case y135 =>
      intro wS hS
      go_simp
      all_goals with_reducible rfl
    try simp only [Act.put, List.setIfInBounds_toArray, List.set_cons_zero, List.set_cons_succ]
    refine Reg.take_yes (i := 4) (d := some 39) (v := ?v136) rfl rfl (by kernel_rfl) (by kernel_rfl) (by kernel_rfl) (fun _ _ _ h => by cases h.1) (by rfl) ?y136 hHeld ?r136
    case y136 =>
      intro wS hS
      go_simp
      all_goals with_reducible rfl
    try simp only [Act.put, List.setIfInBounds_toArray, List.set_cons_zero, List.set_cons_succ]
    refine Reg.take_yes (i := 5) (d := some 40) (v := ?v137) rfl rfl (by kernel_rfl) (by kernel_rfl) (by kernel_rfl) (fun _ _ _ h => by cases h.1) (by rfl) ?y137 hHeld ?r137
    case y137 =>
      intro wS hS
      go_simp
      all_goals with_reducible rfl
    try simp only [Act.put, List.setIfInBounds_toArray, List.set_cons_zero, List.set_cons_succ]
    refine Reg.take_yes (i := 6) (d := some 41) (v := ?v138) rfl rfl (by kernel_rfl) (by kernel_rfl) (by kernel_rfl) (fun _ _ _ h => by cases h.1) (by rfl) ?y138 hHeld ?r138
    case y138 =>
      intro wS hS
      go_simp
      all_goals with_reducible rfl
    try simp only [Act.put, List.setIfInBounds_toArray, List.set_cons_zero, List.set_cons_succ]
    refine Reg.take_no (i := 7) (d := some 42) rfl rfl (by kernel_rfl) (by kernel_rfl) (by kernel_rfl) (fun _ _ _ h => by cases h.1) (by rfl) hHeld ?_
    try simp only [Act.put, List.setIfInBounds_toArray, List.set_cons_zero, List.set_cons_succ]
    refine Reg.take_no (i := 8) (d := some 43) rfl rfl (by kernel_rfl) (by kernel_rfl) (by kernel_rfl) (fun _ _ _ h => by cases h.1) (by rfl) hHeld ?_
    try simp only [Act.put, List.setIfInBounds_toArray, List.set_cons_zero, List.set_cons_succ]
    refine Reg.take_no (i := 9) (d := some 44) rfl rfl (by kernel_rfl) (by kernel_rfl) (by kernel_rfl) (fun _ _ _ h => by cases h.1) (by rfl) hHeld ?_
    try simp only [Act.put, List.setIfInBounds_toArray, List.set_cons_zero, List.set_cons_succ]
    refine Reg.take_no (i := 10) (d := some 45) rfl rfl (by kernel_rfl) (by kernel_rfl) (by kernel_rfl) (fun _ _ _ h => by cases h.1) (by rfl) hHeld ?_
    try simp only [Act.put, List.setIfInBounds_toArray, List.set_cons_zero, List.set_cons_succ]
    refine Reg.take_yes (i := 11) (d := some 46) (v := ?v139) rfl rfl (by kernel_rfl) (by kernel_rfl) (by kernel_rfl) (fun _ _ _ h => by cases h.1) (by rfl) ?y139 hHeld ?r139
    case y139 =>
      intro wS hS
      go_simp
      all_goals with_reducible rfl
    try simp only [Act.put, List.setIfInBounds_toArray, List.set_cons_zero, List.set_cons_succ]
    refine Reg.take_yes (i := 12) (d := some 47) (v := ?v140) rfl rfl (by kernel_rfl) (by kernel_rfl) (by kernel_rfl) (fun _ _ _ h => by cases h.1) (by rfl) ?y140 hHeld ?r140
    case y140 =>
      intro wS hS
      go_simp
      all_goals with_reducible rfl
    try simp only [Act.put, List.setIfInBounds_toArray, List.set_cons_zero, List.set_cons_succ]
    refine Reg.take_yes (i := 13) (d := some 48) (v := ?v141) rfl rfl (by kernel_rfl) (by kernel_rfl) (by kernel_rfl) (fun _ _ _ h => by cases h.1) (by rfl) ?y141 hHeld ?r141
    case y141 =>
      intro wS hS
      go_simp
      all_goals with_reducible rfl
    try simp only [Act.put, List.setIfInBounds_toArray, List.set_cons_zero, List.set_cons_succ]
    refine Reg.take_yes (i := 14) (d := some 49) (v := ?v142) rfl rfl (by kernel_rfl) (by kernel_rfl) (by kernel_rfl) (fun _ _ _ h => by cases h.1) (by rfl) ?y142 hHeld ?r142
    case y142 =>
      intro wS hS
      go_simp
      all_goals with_reducible rfl
    try simp only [Act.put, List.setIfInBounds_toArray, List.set_cons_zero, List.set_cons_succ]
    refine Reg.take_yes (i := 15) (d := some 50) (v := ?v143) rfl rfl (by kernel_rfl) (by kernel_rfl) (by kernel_rfl) (fun _ _ _ h => by cases h.1) (by rfl) ?y143 hHeld ?r143
    case y143 =>
      intro wS hS
      go_simp
      all_goals with_reducible rfl
    try simp only [Act.put, List.setIfInBounds_toArray, List.set_cons_zero, List.set_cons_succ]
    refine Reg.take_yes (i := 16) (d := some 51) (v := ?v144) rfl rfl (by kernel_rfl) (by kernel_rfl) (by kernel_rfl) (fun _ _ _ h => by cases h.1) (by rfl) ?y144 hHeld ?r144
    case y144 =>
      intro wS hS
      go_simp
      all_goals with_reducible rfl
    try simp only [Act.put, List.setIfInBounds_toArray, List.set_cons_zero, List.set_cons_succ]
    refine Reg.take_yes (i := 17) (d := some 52) (v := ?v145) rfl rfl (by kernel_rfl) (by kernel_rfl) (by kernel_rfl) (fun _ _ _ h => by cases h.1) (by rfl) ?y145 hHeld ?r145
    case y145 =>
      intro wS hS
      go_simp
      all_goals with_reducible rfl
    try simp only [Act.put, List.setIfInBounds_toArray, List.set_cons_zero, List.set_cons_succ]
    refine Reg.take_yes (i := 18) (d := some 53) (v := ?v146) rfl rfl (by kernel_rfl) (by kernel_rfl) (by kernel_rfl) (fun _ _ _ h => by cases h.1) (by rfl) ?y146 hHeld ?r146
    case y146 =>
      intro wS hS
      go_simp
      all_goals with_reducible rfl
    try simp only [Act.put, List.setIfInBounds_toArray, List.set_cons_zero, List.set_cons_succ]
    refine Reg.take_yes (i := 19) (d := some 54) (v := ?v147) rfl rfl (by kernel_rfl) (by kernel_rfl) (by kernel_rfl) (fun _ _ _ h => by cases h.1) (by rfl) ?y147 hHeld ?r147
    case y147 =>
      intro wS hS
      go_simp
      all_goals with_reducible rfl
    try simp only [Act.put, List.setIfInBounds_toArray, List.set_cons_zero, List.set_cons_succ]
    refine Reg.take_yes (i := 20) (d := some 55) (v := ?v148) rfl rfl (by kernel_rfl) (by kernel_rfl) (by kernel_rfl) (fun _ _ _ h => by cases h.1) (by rfl) ?y148 hHeld ?r148
    case y148 =>
      intro wS hS
      obtain ⟨sL, sB, s0, s1, s2, s3, s4, s5, z0, z1⟩ := hS
      go_simp
      all_goals with_reducible rfl
    try simp only [Act.put, List.setIfInBounds_toArray, List.set_cons_zero, List.set_cons_succ]
    refine Reg.take_yes (i := 21) (d := some 56) (v := ?v149) rfl rfl (by kernel_rfl) (by kernel_rfl) (by kernel_rfl) (fun _ _ _ h => by cases h.1) (by rfl) ?y149 hHeld ?r149
    case y149 =>
      intro wS hS
      go_simp
      all_goals with_reducible rfl
    try simp only [Act.put, List.setIfInBounds_toArray, List.set_cons_zero, List.set_cons_succ]
    refine Reg.take_yes (i := 22) (d := some 57) (v := ?v150) rfl rfl (by kernel_rfl) (by kernel_rfl) (by kernel_rfl) (fun _ _ _ h => by cases h.1) (by rfl) ?y150 hHeld ?r150
    case y150 =>
      intro wS hS
      go_simp
      all_goals with_reducible rfl
    try simp only [Act.put, List.setIfInBounds_toArray, List.set_cons_zero, List.set_cons_succ]
    refine Reg.take_yes (i := 23) (d := some 58) (v := ?v151) rfl rfl (by kernel_rfl) (by kernel_rfl) (by kernel_rfl) (fun _ _ _ h => by cases h.1) (by rfl) ?y151 hHeld ?r151
    case y151 =>
      intro wS hS
      go_simp
      all_goals with_reducible rfl
    try simp only [Act.put, List.setIfInBounds_toArray, List.set_cons_zero, List.set_cons_succ]
    refine Reg.take_yes (i := 24) (d := some 59) (v := ?v152) rfl rfl (by kernel_rfl) (by kernel_rfl) (by kernel_rfl) (fun _ _ _ h => by cases h.1) (by rfl) ?y152 hHeld ?r152
    case y152 =>
      intro wS hS
      go_simp
      all_goals with_reducible rfl
    try simp only [Act.put, List.setIfInBounds_toArray, List.set_cons_zero, List.set_cons_succ]
    refine Reg.take_yes (i := 25) (d := some 60) (v := ?v153) rfl rfl (by kernel_rfl) (by kernel_rfl) (by kernel_rfl) (fun _ _ _ h => by cases h.1) (by rfl) ?y153 hHeld ?r153
    case y153 =>
      intro wS hS
      go_simp
      all_goals with_reducible rfl
    try simp only [Act.put, List.setIfInBounds_toArray, List.set_cons_zero, List.set_cons_succ]
    refine wpAnyH_done (by kernel_rfl) ?_ _
    refine ⟨rfl, ?_, hHeld⟩
    with_reducible rfl
  rintro w3 ⟨hL, hB, s0, s1, s2, s3, s4, s5, z0, z1⟩
  have hid3 := Lib.hid hB
  have P3 := Lib.hid (Own3.mk z0 s0 s1 s2)
  clear hL hB s0 s1 s2 s3 s4 s5 z0 z1
  clear eBel1 eLd1 ePBlk1 eXBlk1
  have Pq0 := P3.out.c0
  have Pq1 := P3.out.c1
  have Pq2 := P3.out.c2
  go_wp2_with fail
  clear Pq0 Pq1 Pq2
  have eBel2 := Lib.hid ((hid3.out).drew)
  have eLd2 := Lib.hid (HL.out.below (eBel2.out))
  have ePBlk2 := Lib.hid ((P3.out).below (Below.refl _ _).drew)
  clear hid3 P3
  refine Reg.cut (S := (fun w' => Ld w' ∧ Below w.heap.size w w' ∧ w'.cell? ⟨w.heap.size, 0, none⟩ = some (.int .i64 m) ∧ w'.cell? ⟨w.heap.size, 1, none⟩ = some (.int .u64 f) ∧ w'.cell? ⟨w.heap.size, 2, none⟩ = some (.int .u64 o) ∧ w.heap.size < w'.heap.size)) (A := ?hA154) ?hreg154 ?hrest154
  case hreg154 =>
    refine wp_region_held_drew (S := (fun w' => Ld w' ∧ Below w.heap.size w w' ∧ w'.cell? ⟨w.heap.size, 0, none⟩ = some (.int .i64 m) ∧ w'.cell? ⟨w.heap.size, 1, none⟩ = some (.int .u64 f) ∧ w'.cell? ⟨w.heap.size, 2, none⟩ = some (.int .u64 o) ∧ w.heap.size < w'.heap.size)) (by kernel_rfl) (⟨eLd2.out, eBel2.out, (ePBlk2.out).c0, (ePBlk2.out).c1, (ePBlk2.out).c2, (ePBlk2.out).lt⟩) (fun hHeld => ?_)
    refine Reg.take_yes (i := 0) (d := some 61) (v := ?v155) rfl rfl (by kernel_rfl) (by kernel_rfl) (by kernel_rfl) (fun _ _ _ h => by cases h.1) (by rfl) ?y155 hHeld ?r155
    case y155 =>
      intro wS hS
      obtain ⟨sL, sB, s0, s1, s2, z0⟩ := hS
      go_simp
      all_goals with_reducible rfl
    try simp only [Act.put, List.setIfInBounds_toArray, List.set_cons_zero, List.set_cons_succ]
    refine Reg.take_yes (i := 2) (d := some 63) (v := ?v156) rfl rfl (by kernel_rfl) (by kernel_rfl) (by kernel_rfl) (fun _ _ _ h => by cases h.1) (by rfl) ?y156 hHeld ?r156
    case y156 =>
      intro wS hS
      obtain ⟨sL, sB, s0, s1, s2, z0⟩ := hS
      go_simp
      all_goals with_reducible rfl
    try simp only [Act.put, List.setIfInBounds_toArray, List.set_cons_zero, List.set_cons_succ]
    refine wpAnyH_ready (rs := [1]) (by kernel_rfl) (by simp) ?_
    refine Reg.cons_yes rfl (by rfl) (fun K hK => ?_) ?_
    · go_simp
      have hH := hHeld
      obtain ⟨sL, sB, s0, s1, s2, z0⟩ := hH
      refine Calls.mono (HR.out _ sL) ?_
      rintro e wA ⟨rfl, hb⟩
      refine hK.out _ _ (⟨sL.below hb, below_then sB sB.size hb, cell_later hb s0, cell_later hb s1, cell_later hb s2, Nat.lt_of_lt_of_le z0 hb.size⟩) (fun hHeld => ?_)
      clear hK K
      try simp only [Act.put, List.setIfInBounds_toArray, List.set_cons_zero, List.set_cons_succ]
      refine wpAnyH_ready (rs := [3]) (by kernel_rfl) (by simp) ?_
      refine Reg.cons_yes rfl (by rfl) (fun K hK => ?_) ?_
      · go_simp
        have hH := hHeld
        obtain ⟨sL, sB, s0, s1, s2, z0⟩ := hH
        refine Calls.mono (HS.out _ sL) ?_
        rintro e wA ⟨rfl, hb⟩
        refine hK.out _ _ (⟨sL.below hb, below_then sB sB.size hb, cell_later hb s0, cell_later hb s1, cell_later hb s2, Nat.lt_of_lt_of_le z0 hb.size⟩) (fun hHeld => ?_)
        clear hK K
        try simp only [Act.put, List.setIfInBounds_toArray, List.set_cons_zero, List.set_cons_succ]
        refine Reg.take_yes (i := 4) (d := some 65) (v := ?v157) rfl rfl (by kernel_rfl) (by kernel_rfl) (by kernel_rfl) (fun _ _ _ h => by cases h.1) (by rfl) ?y157 hHeld ?r157
        case y157 =>
          intro wS hS
          go_simp
          all_goals with_reducible rfl
        try simp only [Act.put, List.setIfInBounds_toArray, List.set_cons_zero, List.set_cons_succ]
        refine Reg.take_yes (i := 5) (d := some 66) (v := ?v158) rfl rfl (by kernel_rfl) (by kernel_rfl) (by kernel_rfl) (fun _ _ _ h => by cases h.1) (by rfl) ?y158 hHeld ?r158
        case y158 =>
          intro wS hS
          go_simp
          all_goals with_reducible rfl
        try simp only [Act.put, List.setIfInBounds_toArray, List.set_cons_zero, List.set_cons_succ]
        refine Reg.take_yes (i := 6) (d := some 67) (v := ?v159) rfl rfl (by kernel_rfl) (by kernel_rfl) (by kernel_rfl) (fun _ _ _ h => by cases h.1) (by rfl) ?y159 hHeld ?r159
        case y159 =>
          intro wS hS
          obtain ⟨sL, sB, s0, s1, s2, z0⟩ := hS
          go_simp
          all_goals with_reducible rfl
        try simp only [Act.put, List.setIfInBounds_toArray, List.set_cons_zero, List.set_cons_succ]
        refine wpAnyH_ready (rs := [7]) (by kernel_rfl) (by simp) ?_
        refine Reg.cons_yes rfl (by rfl) (fun K hK => ?_) ?_
        · go_simp
          have hH := hHeld
          obtain ⟨sL, sB, s0, s1, s2, z0⟩ := hH
          refine Calls.mono (HS.out _ sL) ?_
          rintro e wA ⟨rfl, hb⟩
          refine hK.out _ _ (⟨sL.below hb, below_then sB sB.size hb, cell_later hb s0, cell_later hb s1, cell_later hb s2, Nat.lt_of_lt_of_le z0 hb.size⟩) (fun hHeld => ?_)
          clear hK K
          try simp only [Act.put, List.setIfInBounds_toArray, List.set_cons_zero, List.set_cons_succ]
          refine Reg.take_yes (i := 8) (d := some 69) (v := ?v160) rfl rfl (by kernel_rfl) (by kernel_rfl) (by kernel_rfl) (fun _ _ _ h => by cases h.1) (by rfl) ?y160 hHeld ?r160
          case y160 =>
            intro wS hS
            go_simp
            all_goals with_reducible rfl
          try simp only [Act.put, List.setIfInBounds_toArray, List.set_cons_zero, List.set_cons_succ]
          refine Reg.take_yes (i := 9) (d := some 70) (v := ?v161) rfl rfl (by kernel_rfl) (by kernel_rfl) (by kernel_rfl) (fun _ _ _ h => by cases h.1) (by rfl) ?y161 hHeld ?r161
          case y161 =>
            intro wS hS
            go_simp
            all_goals with_reducible rfl
          try simp only [Act.put, List.setIfInBounds_toArray, List.set_cons_zero, List.set_cons_succ]
          refine wpAnyH_done (by kernel_rfl) ?_ _
          refine ⟨rfl, ?_, hHeld⟩
          with_reducible rfl
        exact AllReadyH.nil
      exact AllReadyH.nil
    exact AllReadyH.nil
  rintro w4 ⟨hL, hB, s0, s1, s2, z0⟩
  have hid4 := Lib.hid hB
  have P4 := Lib.hid (Own3.mk z0 s0 s1 s2)
  clear hL hB s0 s1 s2 z0
  clear eBel2 eLd2 ePBlk2
  have Pq0 := P4.out.c0
  have Pq1 := P4.out.c1
  have Pq2 := P4.out.c2
  go_wp2_with fail
  clear Pq0 Pq1 Pq2
  refine (HT.out _ (HL.out.below hid4.out)).mono ?_
  rintro e w5 ⟨rfl, hb⟩
  have hid5 := Lib.hid (below_then hid4.out hid4.out.size hb)
  have P5 := Lib.hid (P4.out.below hb)
  clear hb hid4 P4
  have Pq0 := P5.out.c0
  have Pr0 := fun o => (P5.out.alloc o).c0
  have Pq1 := P5.out.c1
  have Pr1 := fun o => (P5.out.alloc o).c1
  have Pq2 := P5.out.c2
  have Pr2 := fun o => (P5.out.alloc o).c2
  go_wp2_with fail
  clear Pq0 Pr0 Pq1 Pr1 Pq2 Pr2
  refine (HU.out _ (HL.out.below (below_alloc hid5.out _))).mono ?_
  rintro e w6 ⟨rfl, hb⟩
  have hid6 := Lib.hid (below_then (below_alloc hid5.out _) (below_alloc hid5.out _).size hb)
  have P6 := Lib.hid ((P5.out.alloc _).below hb)
  have A6 := Lib.hid ((Own3.new w5 (.int .i64 t0) (.int .u64 t1) (.int .u64 t2) 24).below hb)
  clear hb hid5 P5
  have Pq0 := P6.out.c0
  have Pr0 := fun o => (P6.out.alloc o).c0
  have Pq1 := P6.out.c1
  have Pr1 := fun o => (P6.out.alloc o).c1
  have Pq2 := P6.out.c2
  have Pr2 := fun o => (P6.out.alloc o).c2
  have Aq0 := A6.out.c0
  have Ar0 := fun o => (A6.out.alloc o).c0
  have Aq1 := A6.out.c1
  have Ar1 := fun o => (A6.out.alloc o).c1
  have Aq2 := A6.out.c2
  have Ar2 := fun o => (A6.out.alloc o).c2
  go_wp2_with fail
  clear Pq0 Pr0 Pq1 Pr1 Pq2 Pr2 Aq0 Ar0 Aq1 Ar1 Aq2 Ar2
  refine (HG.out _ (HL.out.below (below_alloc hid6.out _))).mono ?_
  rintro e w7 ⟨rfl, hb⟩
  have hid7 := Lib.hid (below_then (below_alloc hid6.out _) (below_alloc hid6.out _).size hb)
  have P7 := Lib.hid ((P6.out.alloc _).below hb)
  have A7 := Lib.hid ((A6.out.alloc _).below hb)
  have B7 := Lib.hid ((Own3.new w6 (.int .i64 t0) (.int .u64 t1) (.int .u64 t2) 24).below hb)
  clear hb hid6 P6 A6
  have Pq0 := P7.out.c0
  have Pr0 := fun o => (P7.out.alloc o).c0
  have Pq1 := P7.out.c1
  have Pr1 := fun o => (P7.out.alloc o).c1
  have Pq2 := P7.out.c2
  have Pr2 := fun o => (P7.out.alloc o).c2
  have Aq0 := A7.out.c0
  have Ar0 := fun o => (A7.out.alloc o).c0
  have Aq1 := A7.out.c1
  have Ar1 := fun o => (A7.out.alloc o).c1
  have Aq2 := A7.out.c2
  have Ar2 := fun o => (A7.out.alloc o).c2
  have Bq0 := B7.out.c0
  have Br0 := fun o => (B7.out.alloc o).c0
  have Bq1 := B7.out.c1
  have Br1 := fun o => (B7.out.alloc o).c1
  have Bq2 := B7.out.c2
  have Br2 := fun o => (B7.out.alloc o).c2
  go_wp2_with fail
  clear Pq0 Pr0 Pq1 Pr1 Pq2 Pr2 Aq0 Ar0 Aq1 Ar1 Aq2 Ar2 Bq0 Br0 Bq1 Br1 Bq2 Br2
  refine (HH.out _ (HL.out.below (below_alloc hid7.out _))).mono ?_
  rintro e w8 ⟨rfl, hb⟩
  have hid8 := Lib.hid (below_then (below_alloc hid7.out _) (below_alloc hid7.out _).size hb)
  have P8 := Lib.hid ((P7.out.alloc _).below hb)
  have A8 := Lib.hid ((A7.out.alloc _).below hb)
  have B8 := Lib.hid ((B7.out.alloc _).below hb)
  have C8 := Lib.hid ((Own3.new w7 (.int .i64 g0) (.int .u64 g1) (.int .u64 g2) 24).below hb)
  clear hb hid7 P7 A7 B7
  have Pq0 := P8.out.c0
  have Pr0 := fun o => (P8.out.alloc o).c0
  have Pq1 := P8.out.c1
  have Pr1 := fun o => (P8.out.alloc o).c1
  have Pq2 := P8.out.c2
  have Pr2 := fun o => (P8.out.alloc o).c2
  have Aq0 := A8.out.c0
  have Ar0 := fun o => (A8.out.alloc o).c0
  have Aq1 := A8.out.c1
  have Ar1 := fun o => (A8.out.alloc o).c1
  have Aq2 := A8.out.c2
  have Ar2 := fun o => (A8.out.alloc o).c2
  have Bq0 := B8.out.c0
  have Br0 := fun o => (B8.out.alloc o).c0
  have Bq1 := B8.out.c1
  have Br1 := fun o => (B8.out.alloc o).c1
  have Bq2 := B8.out.c2
  have Br2 := fun o => (B8.out.alloc o).c2
  have Cq0 := C8.out.c0
  have Cr0 := fun o => (C8.out.alloc o).c0
  have Cq1 := C8.out.c1
  have Cr1 := fun o => (C8.out.alloc o).c1
  have Cq2 := C8.out.c2
  have Cr2 := fun o => (C8.out.alloc o).c2
  go_wp2_with fail
  clear Pq0 Pr0 Pq1 Pr1 Pq2 Pr2 Aq0 Ar0 Aq1 Ar1 Aq2 Ar2 Bq0 Br0 Bq1 Br1 Bq2 Br2 Cq0 Cr0 Cq1 Cr1 Cq2 Cr2
  have eBel3 := Lib.hid (fun o => (below_alloc hid8.out o).drew)
  have eLd3 := Lib.hid (fun o => HL.out.below (eBel3.out o))
  have ePBlk3 := Lib.hid (fun o => (P8.out.alloc o).below (Below.refl _ _).drew)
  have eABlk3 := Lib.hid (fun o => (A8.out.alloc o).below (Below.refl _ _).drew)
  have eBBlk3 := Lib.hid (fun o => (B8.out.alloc o).below (Below.refl _ _).drew)
  have eCBlk3 := Lib.hid (fun o => (C8.out.alloc o).below (Below.refl _ _).drew)
  have eDBlk3 := Lib.hid ((Own3.new w8 (.int .i64 g0) (.int .u64 g1) (.int .u64 g2) 24).below (Below.refl _ _).drew)
  clear hid8 P8 A8 B8 C8
  refine Reg.cut (S := (fun w' => Ld w' ∧ Below w.heap.size w w' ∧ w'.cell? ⟨w.heap.size, 0, none⟩ = some (.int .i64 m) ∧ w'.cell? ⟨w.heap.size, 1, none⟩ = some (.int .u64 f) ∧ w'.cell? ⟨w.heap.size, 2, none⟩ = some (.int .u64 o) ∧ w'.cell? ⟨w5.heap.size, 0, none⟩ = some (.int .i64 t0) ∧ w'.cell? ⟨w5.heap.size, 1, none⟩ = some (.int .u64 t1) ∧ w'.cell? ⟨w5.heap.size, 2, none⟩ = some (.int .u64 t2) ∧ w'.cell? ⟨w6.heap.size, 0, none⟩ = some (.int .i64 t0) ∧ w'.cell? ⟨w6.heap.size, 1, none⟩ = some (.int .u64 t1) ∧ w'.cell? ⟨w6.heap.size, 2, none⟩ = some (.int .u64 t2) ∧ w'.cell? ⟨w7.heap.size, 0, none⟩ = some (.int .i64 g0) ∧ w'.cell? ⟨w7.heap.size, 1, none⟩ = some (.int .u64 g1) ∧ w'.cell? ⟨w7.heap.size, 2, none⟩ = some (.int .u64 g2) ∧ w'.cell? ⟨w8.heap.size, 0, none⟩ = some (.int .i64 g0) ∧ w'.cell? ⟨w8.heap.size, 1, none⟩ = some (.int .u64 g1) ∧ w'.cell? ⟨w8.heap.size, 2, none⟩ = some (.int .u64 g2) ∧ w.heap.size < w'.heap.size ∧ w5.heap.size < w'.heap.size ∧ w6.heap.size < w'.heap.size ∧ w7.heap.size < w'.heap.size ∧ w8.heap.size < w'.heap.size)) (A := ?hA162) ?hreg162 ?hrest162
  case hreg162 =>
    refine wp_region_held_drew (S := (fun w' => Ld w' ∧ Below w.heap.size w w' ∧ w'.cell? ⟨w.heap.size, 0, none⟩ = some (.int .i64 m) ∧ w'.cell? ⟨w.heap.size, 1, none⟩ = some (.int .u64 f) ∧ w'.cell? ⟨w.heap.size, 2, none⟩ = some (.int .u64 o) ∧ w'.cell? ⟨w5.heap.size, 0, none⟩ = some (.int .i64 t0) ∧ w'.cell? ⟨w5.heap.size, 1, none⟩ = some (.int .u64 t1) ∧ w'.cell? ⟨w5.heap.size, 2, none⟩ = some (.int .u64 t2) ∧ w'.cell? ⟨w6.heap.size, 0, none⟩ = some (.int .i64 t0) ∧ w'.cell? ⟨w6.heap.size, 1, none⟩ = some (.int .u64 t1) ∧ w'.cell? ⟨w6.heap.size, 2, none⟩ = some (.int .u64 t2) ∧ w'.cell? ⟨w7.heap.size, 0, none⟩ = some (.int .i64 g0) ∧ w'.cell? ⟨w7.heap.size, 1, none⟩ = some (.int .u64 g1) ∧ w'.cell? ⟨w7.heap.size, 2, none⟩ = some (.int .u64 g2) ∧ w'.cell? ⟨w8.heap.size, 0, none⟩ = some (.int .i64 g0) ∧ w'.cell? ⟨w8.heap.size, 1, none⟩ = some (.int .u64 g1) ∧ w'.cell? ⟨w8.heap.size, 2, none⟩ = some (.int .u64 g2) ∧ w.heap.size < w'.heap.size ∧ w5.heap.size < w'.heap.size ∧ w6.heap.size < w'.heap.size ∧ w7.heap.size < w'.heap.size ∧ w8.heap.size < w'.heap.size)) (by kernel_rfl) (⟨eLd3.out _, eBel3.out _, (ePBlk3.out _).c0, (ePBlk3.out _).c1, (ePBlk3.out _).c2, (eABlk3.out _).c0, (eABlk3.out _).c1, (eABlk3.out _).c2, (eBBlk3.out _).c0, (eBBlk3.out _).c1, (eBBlk3.out _).c2, (eCBlk3.out _).c0, (eCBlk3.out _).c1, (eCBlk3.out _).c2, (eDBlk3.out).c0, (eDBlk3.out).c1, (eDBlk3.out).c2, (ePBlk3.out _).lt, (eABlk3.out _).lt, (eBBlk3.out _).lt, (eCBlk3.out _).lt, (eDBlk3.out).lt⟩) (fun hHeld => ?_)
    refine Reg.take_yes (i := 0) (d := some 102) (v := ?v163) rfl rfl (by kernel_rfl) (by kernel_rfl) (by kernel_rfl) (fun _ _ _ h => by cases h.1) (by rfl) ?y163 hHeld ?r163
    case y163 =>
      intro wS hS
      obtain ⟨sL, sB, s0, s1, s2, s3, s4, s5, s6, s7, s8, s9, s10, s11, s12, s13, s14, z0, z1, z2, z3, z4⟩ := hS
      go_simp
      all_goals with_reducible rfl
    try simp only [Act.put, List.setIfInBounds_toArray, List.set_cons_zero, List.set_cons_succ]
    refine Reg.take_yes (i := 1) (d := some 103) (v := ?v164) rfl rfl (by kernel_rfl) (by kernel_rfl) (by kernel_rfl) (fun _ _ _ h => by cases h.1) (by rfl) ?y164 hHeld ?r164
    case y164 =>
      intro wS hS
      obtain ⟨sL, sB, s0, s1, s2, s3, s4, s5, s6, s7, s8, s9, s10, s11, s12, s13, s14, z0, z1, z2, z3, z4⟩ := hS
      go_simp
      all_goals with_reducible rfl
    try simp only [Act.put, List.setIfInBounds_toArray, List.set_cons_zero, List.set_cons_succ]
    refine Reg.take_yes (i := 2) (d := some 104) (v := ?v165) rfl rfl (by kernel_rfl) (by kernel_rfl) (by kernel_rfl) (fun _ _ _ h => by cases h.1) (by rfl) ?y165 hHeld ?r165
    case y165 =>
      intro wS hS
      go_simp
      all_goals with_reducible rfl
    try simp only [Act.put, List.setIfInBounds_toArray, List.set_cons_zero, List.set_cons_succ]
    refine Reg.take_yes (i := 3) (d := some 105) (v := ?v166) rfl rfl (by kernel_rfl) (by kernel_rfl) (by kernel_rfl) (fun _ _ _ h => by cases h.1) (by rfl) ?y166 hHeld ?r166
    case y166 =>
      intro wS hS
      go_simp
      all_goals with_reducible rfl
    try simp only [Act.put, List.setIfInBounds_toArray, List.set_cons_zero, List.set_cons_succ]
    refine Reg.take_yes (i := 4) (d := some 106) (v := ?v167) rfl rfl (by kernel_rfl) (by kernel_rfl) (by kernel_rfl) (fun _ _ _ h => by cases h.1) (by rfl) ?y167 hHeld ?r167
    case y167 =>
      intro wS hS
      go_simp
      all_goals with_reducible rfl
    try simp only [Act.put, List.setIfInBounds_toArray, List.set_cons_zero, List.set_cons_succ]
    refine Reg.take_yes (i := 5) (d := some 107) (v := ?v168) rfl rfl (by kernel_rfl) (by kernel_rfl) (by kernel_rfl) (fun _ _ _ h => by cases h.1) (by rfl) ?y168 hHeld ?r168
    case y168 =>
      intro wS hS
      go_simp
      all_goals with_reducible rfl
    try simp only [Act.put, List.setIfInBounds_toArray, List.set_cons_zero, List.set_cons_succ]
    refine Reg.take_yes (i := 6) (d := some 108) (v := ?v169) rfl rfl (by kernel_rfl) (by kernel_rfl) (by kernel_rfl) (fun _ _ _ h => by cases h.1) (by rfl) ?y169 hHeld ?r169
    case y169 =>
      intro wS hS
      go_simp
      all_goals with_reducible rfl
    try simp only [Act.put, List.setIfInBounds_toArray, List.set_cons_zero, List.set_cons_succ]
    refine Reg.take_yes (i := 7) (d := some 109) (v := ?v170) rfl rfl (by kernel_rfl) (by kernel_rfl) (by kernel_rfl) (fun _ _ _ h => by cases h.1) (by rfl) ?y170 hHeld ?r170
    case y170 =>
      intro wS hS
      go_simp
      all_goals with_reducible rfl
    try simp only [Act.put, List.setIfInBounds_toArray, List.set_cons_zero, List.set_cons_succ]
    refine Reg.take_yes (i := 8) (d := some 110) (v := ?v171) rfl rfl (by kernel_rfl) (by kernel_rfl) (by kernel_rfl) (fun _ _ _ h => by cases h.1) (by rfl) ?y171 hHeld ?r171
    case y171 =>
      intro wS hS
      go_simp
      all_goals with_reducible rfl
    try simp only [Act.put, List.setIfInBounds_toArray, List.set_cons_zero, List.set_cons_succ]
    refine Reg.take_yes (i := 9) (d := some 111) (v := ?v172) rfl rfl (by kernel_rfl) (by kernel_rfl) (by kernel_rfl) (fun _ _ _ h => by cases h.1) (by rfl) ?y172 hHeld ?r172
    case y172 =>
      intro wS hS
      go_simp
      all_goals with_reducible rfl
    try simp only [Act.put, List.setIfInBounds_toArray, List.set_cons_zero, List.set_cons_succ]
    refine Reg.take_yes (i := 10) (d := some 112) (v := ?v173) rfl rfl (by kernel_rfl) (by kernel_rfl) (by kernel_rfl) (fun _ _ _ h => by cases h.1) (by rfl) ?y173 hHeld ?r173
    case y173 =>
      intro wS hS
      go_simp
      all_goals with_reducible rfl
    try simp only [Act.put, List.setIfInBounds_toArray, List.set_cons_zero, List.set_cons_succ]
    refine Reg.take_yes (i := 11) (d := some 113) (v := ?v174) rfl rfl (by kernel_rfl) (by kernel_rfl) (by kernel_rfl) (fun _ _ _ h => by cases h.1) (by rfl) ?y174 hHeld ?r174
    case y174 =>
      intro wS hS
      go_simp
      all_goals with_reducible rfl
    try simp only [Act.put, List.setIfInBounds_toArray, List.set_cons_zero, List.set_cons_succ]
    refine Reg.take_yes (i := 12) (d := some 114) (v := ?v175) rfl rfl (by kernel_rfl) (by kernel_rfl) (by kernel_rfl) (fun _ _ _ h => by cases h.1) (by rfl) ?y175 hHeld ?r175
    case y175 =>
      intro wS hS
      go_simp
      all_goals with_reducible rfl
    try simp only [Act.put, List.setIfInBounds_toArray, List.set_cons_zero, List.set_cons_succ]
    refine Reg.take_yes (i := 13) (d := some 115) (v := ?v176) rfl rfl (by kernel_rfl) (by kernel_rfl) (by kernel_rfl) (fun _ _ _ h => by cases h.1) (by rfl) ?y176 hHeld ?r176
    case y176 =>
      intro wS hS
      go_simp
      all_goals with_reducible rfl
    try simp only [Act.put, List.setIfInBounds_toArray, List.set_cons_zero, List.set_cons_succ]
    refine Reg.take_yes (i := 14) (d := some 116) (v := ?v177) rfl rfl (by kernel_rfl) (by kernel_rfl) (by kernel_rfl) (fun _ _ _ h => by cases h.1) (by rfl) ?y177 hHeld ?r177
    case y177 =>
      intro wS hS
      go_simp
      all_goals with_reducible rfl
    try simp only [Act.put, List.setIfInBounds_toArray, List.set_cons_zero, List.set_cons_succ]
    refine Reg.take_yes (i := 15) (d := some 117) (v := ?v178) rfl rfl (by kernel_rfl) (by kernel_rfl) (by kernel_rfl) (fun _ _ _ h => by cases h.1) (by rfl) ?y178 hHeld ?r178
    case y178 =>
      intro wS hS
      go_simp
      all_goals with_reducible rfl
    try simp only [Act.put, List.setIfInBounds_toArray, List.set_cons_zero, List.set_cons_succ]
    refine Reg.take_yes (i := 16) (d := some 118) (v := ?v179) rfl rfl (by kernel_rfl) (by kernel_rfl) (by kernel_rfl) (fun _ _ _ h => by cases h.1) (by rfl) ?y179 hHeld ?r179
    case y179 =>
      intro wS hS
      go_simp
      all_goals with_reducible rfl
    try simp only [Act.put, List.setIfInBounds_toArray, List.set_cons_zero, List.set_cons_succ]
    refine Reg.take_yes (i := 17) (d := some 119) (v := ?v180) rfl rfl (by kernel_rfl) (by kernel_rfl) (by kernel_rfl) (fun _ _ _ h => by cases h.1) (by rfl) ?y180 hHeld ?r180
    case y180 =>
      intro wS hS
      go_simp
      all_goals with_reducible rfl
    try simp only [Act.put, List.setIfInBounds_toArray, List.set_cons_zero, List.set_cons_succ]
    refine Reg.take_yes (i := 18) (d := some 120) (v := ?v181) rfl rfl (by kernel_rfl) (by kernel_rfl) (by kernel_rfl) (fun _ _ _ h => by cases h.1) (by rfl) ?y181 hHeld ?r181
    case y181 =>
      intro wS hS
      go_simp
      all_goals with_reducible rfl
    try simp only [Act.put, List.setIfInBounds_toArray, List.set_cons_zero, List.set_cons_succ]
    refine Reg.take_yes (i := 19) (d := some 121) (v := ?v182) rfl rfl (by kernel_rfl) (by kernel_rfl) (by kernel_rfl) (fun _ _ _ h => by cases h.1) (by rfl) ?y182 hHeld ?r182
    case y182 =>
      intro wS hS
      obtain ⟨sL, sB, s0, s1, s2, s3, s4, s5, s6, s7, s8, s9, s10, s11, s12, s13, s14, z0, z1, z2, z3, z4⟩ := hS
      go_simp
      all_goals with_reducible rfl
    try simp only [Act.put, List.setIfInBounds_toArray, List.set_cons_zero, List.set_cons_succ]
    refine Reg.take_yes (i := 20) (d := some 122) (v := ?v183) rfl rfl (by kernel_rfl) (by kernel_rfl) (by kernel_rfl) (fun _ _ _ h => by cases h.1) (by rfl) ?y183 hHeld ?r183
    case y183 =>
      intro wS hS
      obtain ⟨sL, sB, s0, s1, s2, s3, s4, s5, s6, s7, s8, s9, s10, s11, s12, s13, s14, z0, z1, z2, z3, z4⟩ := hS
      go_simp
      all_goals with_reducible rfl
    try simp only [Act.put, List.setIfInBounds_toArray, List.set_cons_zero, List.set_cons_succ]
    refine Reg.take_yes (i := 21) (d := some 123) (v := ?v184) rfl rfl (by kernel_rfl) (by kernel_rfl) (by kernel_rfl) (fun _ _ _ h => by cases h.1) (by rfl) ?y184 hHeld ?r184
    case y184 =>
      intro wS hS
      go_simp
      all_goals with_reducible rfl
    try simp only [Act.put, List.setIfInBounds_toArray, List.set_cons_zero, List.set_cons_succ]
    refine Reg.take_yes (i := 22) (d := some 124) (v := ?v185) rfl rfl (by kernel_rfl) (by kernel_rfl) (by kernel_rfl) (fun _ _ _ h => by cases h.1) (by rfl) ?y185 hHeld ?r185
    case y185 =>
      intro wS hS
      go_simp
      all_goals with_reducible rfl
    try simp only [Act.put, List.setIfInBounds_toArray, List.set_cons_zero, List.set_cons_succ]
    refine Reg.take_yes (i := 23) (d := some 125) (v := ?v186) rfl rfl (by kernel_rfl) (by kernel_rfl) (by kernel_rfl) (fun _ _ _ h => by cases h.1) (by rfl) ?y186 hHeld ?r186
    case y186 =>
      intro wS hS
      go_simp
      all_goals with_reducible rfl
    try simp only [Act.put, List.setIfInBounds_toArray, List.set_cons_zero, List.set_cons_succ]
    refine Reg.take_yes (i := 24) (d := some 126) (v := ?v187) rfl rfl (by kernel_rfl) (by kernel_rfl) (by kernel_rfl) (fun _ _ _ h => by cases h.1) (by rfl) ?y187 hHeld ?r187
    case y187 =>
      intro wS hS
      go_simp
      all_goals with_reducible rfl
    try simp only [Act.put, List.setIfInBounds_toArray, List.set_cons_zero, List.set_cons_succ]
    refine Reg.take_yes (i := 25) (d := some 127) (v := ?v188) rfl rfl (by kernel_rfl) (by kernel_rfl) (by kernel_rfl) (fun _ _ _ h => by cases h.1) (by rfl) ?y188 hHeld ?r188
    case y188 =>
      intro wS hS
      go_simp
      all_goals with_reducible rfl
    try simp only [Act.put, List.setIfInBounds_toArray, List.set_cons_zero, List.set_cons_succ]
    refine Reg.take_yes (i := 26) (d := some 128) (v := ?v189) rfl rfl (by kernel_rfl) (by kernel_rfl) (by kernel_rfl) (fun _ _ _ h => by cases h.1) (by rfl) ?y189 hHeld ?r189
    case y189 =>
      intro wS hS
      go_simp
      all_goals with_reducible rfl
    try simp only [Act.put, List.setIfInBounds_toArray, List.set_cons_zero, List.set_cons_succ]
    refine Reg.take_yes (i := 27) (d := some 129) (v := ?v190) rfl rfl (by kernel_rfl) (by kernel_rfl) (by kernel_rfl) (fun _ _ _ h => by cases h.1) (by rfl) ?y190 hHeld ?r190
    case y190 =>
      intro wS hS
      go_simp
      all_goals with_reducible rfl
    try simp only [Act.put, List.setIfInBounds_toArray, List.set_cons_zero, List.set_cons_succ]
    refine Reg.take_yes (i := 28) (d := some 130) (v := ?v191) rfl rfl (by kernel_rfl) (by kernel_rfl) (by kernel_rfl) (fun _ _ _ h => by cases h.1) (by rfl) ?y191 hHeld ?r191
    case y191 =>
      intro wS hS
      go_simp
      all_goals with_reducible rfl
    try simp only [Act.put, List.setIfInBounds_toArray, List.set_cons_zero, List.set_cons_succ]
    refine Reg.take_yes (i := 29) (d := some 131) (v := ?v192) rfl rfl (by kernel_rfl) (by kernel_rfl) (by kernel_rfl) (fun _ _ _ h => by cases h.1) (by rfl) ?y192 hHeld ?r192
    case y192 =>
      intro wS hS
      obtain ⟨sL, sB, s0, s1, s2, s3, s4, s5, s6, s7, s8, s9, s10, s11, s12, s13, s14, z0, z1, z2, z3, z4⟩ := hS
      go_simp
      all_goals with_reducible rfl
    try simp only [Act.put, List.setIfInBounds_toArray, List.set_cons_zero, List.set_cons_succ]
    refine Reg.take_yes (i := 31) (d := some 133) (v := ?v193) rfl rfl (by kernel_rfl) (by kernel_rfl) (by kernel_rfl) (fun _ _ _ h => by cases h.1) (by rfl) ?y193 hHeld ?r193
    case y193 =>
      intro wS hS
      obtain ⟨sL, sB, s0, s1, s2, s3, s4, s5, s6, s7, s8, s9, s10, s11, s12, s13, s14, z0, z1, z2, z3, z4⟩ := hS
      go_simp
      all_goals with_reducible rfl
    try simp only [Act.put, List.setIfInBounds_toArray, List.set_cons_zero, List.set_cons_succ]
    refine wpAnyH_ready (rs := [30]) (by kernel_rfl) (by simp) ?_
    refine Reg.cons_yes rfl (by rfl) (fun K hK => ?_) ?_
    · go_simp
      have hH := hHeld
      obtain ⟨sL, sB, s0, s1, s2, s3, s4, s5, s6, s7, s8, s9, s10, s11, s12, s13, s14, z0, z1, z2, z3, z4⟩ := hH
      refine Calls.mono (HM.out _ sL) ?_
      rintro e wA ⟨rfl, hb⟩
      refine hK.out _ _ (⟨sL.below hb, below_then sB sB.size hb, cell_later hb s0, cell_later hb s1, cell_later hb s2, cell_later hb s3, cell_later hb s4, cell_later hb s5, cell_later hb s6, cell_later hb s7, cell_later hb s8, cell_later hb s9, cell_later hb s10, cell_later hb s11, cell_later hb s12, cell_later hb s13, cell_later hb s14, Nat.lt_of_lt_of_le z0 hb.size, Nat.lt_of_lt_of_le z1 hb.size, Nat.lt_of_lt_of_le z2 hb.size, Nat.lt_of_lt_of_le z3 hb.size, Nat.lt_of_lt_of_le z4 hb.size⟩) (fun hHeld => ?_)
      clear hK K
      try simp only [Act.put, List.setIfInBounds_toArray, List.set_cons_zero, List.set_cons_succ]
      refine wpAnyH_ready (rs := [32]) (by kernel_rfl) (by simp) ?_
      refine Reg.cons_yes rfl (by rfl) (fun K hK => ?_) ?_
      · go_simp
        have hH := hHeld
        obtain ⟨sL, sB, s0, s1, s2, s3, s4, s5, s6, s7, s8, s9, s10, s11, s12, s13, s14, z0, z1, z2, z3, z4⟩ := hH
        refine Calls.mono (HN.out _ sL) ?_
        rintro e wA ⟨rfl, hb⟩
        refine hK.out _ _ (⟨sL.below hb, below_then sB sB.size hb, cell_later hb s0, cell_later hb s1, cell_later hb s2, cell_later hb s3, cell_later hb s4, cell_later hb s5, cell_later hb s6, cell_later hb s7, cell_later hb s8, cell_later hb s9, cell_later hb s10, cell_later hb s11, cell_later hb s12, cell_later hb s13, cell_later hb s14, Nat.lt_of_lt_of_le z0 hb.size, Nat.lt_of_lt_of_le z1 hb.size, Nat.lt_of_lt_of_le z2 hb.size, Nat.lt_of_lt_of_le z3 hb.size, Nat.lt_of_lt_of_le z4 hb.size⟩) (fun hHeld => ?_)
        clear hK K
        try simp only [Act.put, List.setIfInBounds_toArray, List.set_cons_zero, List.set_cons_succ]
        refine Reg.take_yes (i := 33) (d := some 135) (v := ?v194) rfl rfl (by kernel_rfl) (by kernel_rfl) (by kernel_rfl) (fun _ _ _ h => by cases h.1) (by rfl) ?y194 hHeld ?r194
        case y194 =>
          intro wS hS
          go_simp
          all_goals with_reducible rfl
        try simp only [Act.put, List.setIfInBounds_toArray, List.set_cons_zero, List.set_cons_succ]
        refine Reg.take_yes (i := 34) (d := some 136) (v := ?v195) rfl rfl (by kernel_rfl) (by kernel_rfl) (by kernel_rfl) (fun _ _ _ h => by cases h.1) (by rfl) ?y195 hHeld ?r195
        case y195 =>
          intro wS hS
          go_simp
          all_goals with_reducible rfl
        try simp only [Act.put, List.setIfInBounds_toArray, List.set_cons_zero, List.set_cons_succ]
        refine Reg.take_yes (i := 35) (d := some 6) (v := ?v196) rfl rfl (by kernel_rfl) (by kernel_rfl) (by kernel_rfl) (fun _ _ _ h => by cases h.1) (by rfl) ?y196 hHeld ?r196
        case y196 =>
          intro wS hS
          go_simp
          all_goals with_reducible rfl
        try simp only [Act.put, List.setIfInBounds_toArray, List.set_cons_zero, List.set_cons_succ]
        refine wpAnyH_done (by kernel_rfl) ?_ _
        refine ⟨rfl, ?_, hHeld⟩
        with_reducible rfl
      exact AllReadyH.nil
    exact AllReadyH.nil
  rintro w9 ⟨hL, hB, s0, s1, s2, s3, s4, s5, s6, s7, s8, s9, s10, s11, s12, s13, s14, z0, z1, z2, z3, z4⟩
  have hid9 := Lib.hid hB
  have P9 := Lib.hid (Own3.mk z0 s0 s1 s2)
  have A9 := Lib.hid (Own3.mk z1 s3 s4 s5)
  have B9 := Lib.hid (Own3.mk z2 s6 s7 s8)
  have C9 := Lib.hid (Own3.mk z3 s9 s10 s11)
  have D9 := Lib.hid (Own3.mk z4 s12 s13 s14)
  clear hL hB s0 s1 s2 s3 s4 s5 s6 s7 s8 s9 s10 s11 s12 s13 s14 z0 z1 z2 z3 z4
  clear eBel3 eLd3 ePBlk3 eABlk3 eBBlk3 eCBlk3 eDBlk3
  have Pq0 := P9.out.c0
  have Pq1 := P9.out.c1
  have Pq2 := P9.out.c2
  have Aq0 := A9.out.c0
  have Aq1 := A9.out.c1
  have Aq2 := A9.out.c2
  have Bq0 := B9.out.c0
  have Bq1 := B9.out.c1
  have Bq2 := B9.out.c2
  have Cq0 := C9.out.c0
  have Cq1 := C9.out.c1
  have Cq2 := C9.out.c2
  have Dq0 := D9.out.c0
  have Dq1 := D9.out.c1
  have Dq2 := D9.out.c2
  go_wp2_with fail
  go_ret
  exact ⟨rfl, hid9.out⟩
set_option maxRecDepth 100000 in
set_option maxHeartbeats 4000000 in
theorem walk_hi_no (m f o u many  : Int) (w : World) (hl : Ld w) (h1 : 16 < many)
    (hx : Says 7 #[.int .i64 many] (.tuple #[.agg #[.int .i64 0, .int .u64 0, .int .u64 0], .int .i64 1]))
    (hr : Says 9 #[.agg #[.int .i64 m, .int .u64 f, .int .u64 o]] (.bool false))
    (hs : Says 10 #[.agg #[.int .i64 m, .int .u64 f, .int .u64 o]] (.bool false)) :
    Calls Tryd.prog 3 #[.agg #[.int .i64 m, .int .u64 f, .int .u64 o], .int .u64 u, .int .i64 many] w fun e w' => e = .returned (.bool true) ∧ Below w.heap.size w w' := by
  have HX := Lib.hid hx
  have HR := Lib.hid hr
  have HS := Lib.hid hs
  clear hx hr hs
  have h1a : 1 ≤ many := by omega
  have h1b : decide (many ≤ 16) = false := decide_eq_false (by omega)
  have HL := Lib.hid hl
  have hid0 := Lib.hid (Below.refl w.heap.size w)
  clear hl
  go_enter Tryd.func3, Tryd.ntmps3
  go_wp2_with fail
  refine (atlaslaw18_awake.calls true _ (HL.out.below (below_alloc hid0.out _)) rfl).mono ?_
  rintro e w1 ⟨rfl, hb⟩
  have hid1 := Lib.hid (below_then (below_alloc hid0.out _) (below_alloc hid0.out _).size hb)
  have P1 := Lib.hid ((Own3.new w (.int .i64 m) (.int .u64 f) (.int .u64 o) 24).below hb)
  clear hb hid0 
  have Pq0 := P1.out.c0
  have Pq1 := P1.out.c1
  have Pq2 := P1.out.c2
  go_wp2_with fail
  clear Pq0 Pq1 Pq2
  refine (HX.out _ (HL.out.below hid1.out)).mono ?_
  rintro e w2 ⟨rfl, hb⟩
  have hid2 := Lib.hid (below_then hid1.out hid1.out.size hb)
  have P2 := Lib.hid (P1.out.below hb)
  clear hb hid1 P1
  have Pq0 := P2.out.c0
  have Pq1 := P2.out.c1
  have Pq2 := P2.out.c2
  go_wp2_with fail
  clear Pq0 Pq1 Pq2
  have eBel1 := Lib.hid (fun o => (below_alloc hid2.out o).drew)
  have eLd1 := Lib.hid (fun o => HL.out.below (eBel1.out o))
  have ePBlk1 := Lib.hid (fun o => (P2.out.alloc o).below (Below.refl _ _).drew)
  have eXBlk1 := Lib.hid ((Own3.new w2 (.int .i64 0) (.int .u64 0) (.int .u64 0) 24).below (Below.refl _ _).drew)
  clear hid2 P2
  refine Reg.cut (S := (fun w' => Ld w' ∧ Below w.heap.size w w' ∧ w'.cell? ⟨w.heap.size, 0, none⟩ = some (.int .i64 m) ∧ w'.cell? ⟨w.heap.size, 1, none⟩ = some (.int .u64 f) ∧ w'.cell? ⟨w.heap.size, 2, none⟩ = some (.int .u64 o) ∧ w'.cell? ⟨w2.heap.size, 0, none⟩ = some (.int .i64 0) ∧ w'.cell? ⟨w2.heap.size, 1, none⟩ = some (.int .u64 0) ∧ w'.cell? ⟨w2.heap.size, 2, none⟩ = some (.int .u64 0) ∧ w.heap.size < w'.heap.size ∧ w2.heap.size < w'.heap.size)) (A := ?hA197) ?hreg197 ?hrest197
  case hreg197 =>
    refine wp_region_held_drew (S := (fun w' => Ld w' ∧ Below w.heap.size w w' ∧ w'.cell? ⟨w.heap.size, 0, none⟩ = some (.int .i64 m) ∧ w'.cell? ⟨w.heap.size, 1, none⟩ = some (.int .u64 f) ∧ w'.cell? ⟨w.heap.size, 2, none⟩ = some (.int .u64 o) ∧ w'.cell? ⟨w2.heap.size, 0, none⟩ = some (.int .i64 0) ∧ w'.cell? ⟨w2.heap.size, 1, none⟩ = some (.int .u64 0) ∧ w'.cell? ⟨w2.heap.size, 2, none⟩ = some (.int .u64 0) ∧ w.heap.size < w'.heap.size ∧ w2.heap.size < w'.heap.size)) (by kernel_rfl) (⟨eLd1.out _, eBel1.out _, (ePBlk1.out _).c0, (ePBlk1.out _).c1, (ePBlk1.out _).c2, (eXBlk1.out).c0, (eXBlk1.out).c1, (eXBlk1.out).c2, (ePBlk1.out _).lt, (eXBlk1.out).lt⟩) (fun hHeld => ?_)
    refine Reg.take_yes (i := 0) (d := some 35) (v := ?v198) rfl rfl (by kernel_rfl) (by kernel_rfl) (by kernel_rfl) (fun _ _ _ h => by cases h.1) (by rfl) ?y198 hHeld ?r198
    case y198 =>
      intro wS hS
      go_simp
      all_goals with_reducible rfl
    try simp only [Act.put, List.setIfInBounds_toArray, List.set_cons_zero, List.set_cons_succ]
    refine Reg.take_yes (i := 1) (d := some 36) (v := ?v199) rfl rfl (by kernel_rfl) (by kernel_rfl) (by kernel_rfl) (fun _ _ _ h => by cases h.1) (by rfl) ?y199 hHeld ?r199
    case y199 =>
      intro wS hS
      go_simp
      all_goals with_reducible rfl
    try simp only [Act.put, List.setIfInBounds_toArray, List.set_cons_zero, List.set_cons_succ]
    refine Reg.take_yes (i := 2) (d := some 37) (v := ?v200) rfl rfl (by kernel_rfl) (by kernel_rfl) (by kernel_rfl) (fun _ _ _ h => by cases h.1) (by rfl) ?y200 hHeld ?r200
    case y200 =>
      intro wS hS
      go_simp
      all_goals with_reducible rfl
    try simp only [Act.put, List.setIfInBounds_toArray, List.set_cons_zero, List.set_cons_succ]
    refine Reg.take_yes (i := 3) (d := some 38) (v := ?v201) rfl rfl (by kernel_rfl) (by kernel_rfl) (by kernel_rfl) (fun _ _ _ h => by cases h.1) (by rfl) ?y201 hHeld ?r201
    case y201 =>
      intro wS hS
      go_simp
      all_goals with_reducible rfl
    try simp only [Act.put, List.setIfInBounds_toArray, List.set_cons_zero, List.set_cons_succ]
    refine Reg.take_yes (i := 4) (d := some 39) (v := ?v202) rfl rfl (by kernel_rfl) (by kernel_rfl) (by kernel_rfl) (fun _ _ _ h => by cases h.1) (by rfl) ?y202 hHeld ?r202
    case y202 =>
      intro wS hS
      go_simp
      all_goals with_reducible rfl
    try simp only [Act.put, List.setIfInBounds_toArray, List.set_cons_zero, List.set_cons_succ]
    refine Reg.take_yes (i := 5) (d := some 40) (v := ?v203) rfl rfl (by kernel_rfl) (by kernel_rfl) (by kernel_rfl) (fun _ _ _ h => by cases h.1) (by rfl) ?y203 hHeld ?r203
    case y203 =>
      intro wS hS
      go_simp
      all_goals with_reducible rfl
    try simp only [Act.put, List.setIfInBounds_toArray, List.set_cons_zero, List.set_cons_succ]
    refine Reg.take_yes (i := 6) (d := some 41) (v := ?v204) rfl rfl (by kernel_rfl) (by kernel_rfl) (by kernel_rfl) (fun _ _ _ h => by cases h.1) (by rfl) ?y204 hHeld ?r204
    case y204 =>
      intro wS hS
      go_simp
      all_goals with_reducible rfl
    try simp only [Act.put, List.setIfInBounds_toArray, List.set_cons_zero, List.set_cons_succ]
    refine Reg.take_no (i := 7) (d := some 42) rfl rfl (by kernel_rfl) (by kernel_rfl) (by kernel_rfl) (fun _ _ _ h => by cases h.1) (by rfl) hHeld ?_
    try simp only [Act.put, List.setIfInBounds_toArray, List.set_cons_zero, List.set_cons_succ]
    refine Reg.take_no (i := 8) (d := some 43) rfl rfl (by kernel_rfl) (by kernel_rfl) (by kernel_rfl) (fun _ _ _ h => by cases h.1) (by rfl) hHeld ?_
    try simp only [Act.put, List.setIfInBounds_toArray, List.set_cons_zero, List.set_cons_succ]
    refine Reg.take_no (i := 9) (d := some 44) rfl rfl (by kernel_rfl) (by kernel_rfl) (by kernel_rfl) (fun _ _ _ h => by cases h.1) (by rfl) hHeld ?_
    try simp only [Act.put, List.setIfInBounds_toArray, List.set_cons_zero, List.set_cons_succ]
    refine Reg.take_no (i := 10) (d := some 45) rfl rfl (by kernel_rfl) (by kernel_rfl) (by kernel_rfl) (fun _ _ _ h => by cases h.1) (by rfl) hHeld ?_
    try simp only [Act.put, List.setIfInBounds_toArray, List.set_cons_zero, List.set_cons_succ]
    refine Reg.take_yes (i := 11) (d := some 46) (v := ?v205) rfl rfl (by kernel_rfl) (by kernel_rfl) (by kernel_rfl) (fun _ _ _ h => by cases h.1) (by rfl) ?y205 hHeld ?r205
    case y205 =>
      intro wS hS
      go_simp
      all_goals with_reducible rfl
    try simp only [Act.put, List.setIfInBounds_toArray, List.set_cons_zero, List.set_cons_succ]
    refine Reg.take_yes (i := 12) (d := some 47) (v := ?v206) rfl rfl (by kernel_rfl) (by kernel_rfl) (by kernel_rfl) (fun _ _ _ h => by cases h.1) (by rfl) ?y206 hHeld ?r206
    case y206 =>
      intro wS hS
      go_simp
      all_goals with_reducible rfl
    try simp only [Act.put, List.setIfInBounds_toArray, List.set_cons_zero, List.set_cons_succ]
    refine Reg.take_yes (i := 13) (d := some 48) (v := ?v207) rfl rfl (by kernel_rfl) (by kernel_rfl) (by kernel_rfl) (fun _ _ _ h => by cases h.1) (by rfl) ?y207 hHeld ?r207
    case y207 =>
      intro wS hS
      go_simp
      all_goals with_reducible rfl
    try simp only [Act.put, List.setIfInBounds_toArray, List.set_cons_zero, List.set_cons_succ]
    refine Reg.take_yes (i := 14) (d := some 49) (v := ?v208) rfl rfl (by kernel_rfl) (by kernel_rfl) (by kernel_rfl) (fun _ _ _ h => by cases h.1) (by rfl) ?y208 hHeld ?r208
    case y208 =>
      intro wS hS
      go_simp
      all_goals with_reducible rfl
    try simp only [Act.put, List.setIfInBounds_toArray, List.set_cons_zero, List.set_cons_succ]
    refine Reg.take_yes (i := 15) (d := some 50) (v := ?v209) rfl rfl (by kernel_rfl) (by kernel_rfl) (by kernel_rfl) (fun _ _ _ h => by cases h.1) (by rfl) ?y209 hHeld ?r209
    case y209 =>
      intro wS hS
      go_simp
      all_goals with_reducible rfl
    try simp only [Act.put, List.setIfInBounds_toArray, List.set_cons_zero, List.set_cons_succ]
    refine Reg.take_yes (i := 16) (d := some 51) (v := ?v210) rfl rfl (by kernel_rfl) (by kernel_rfl) (by kernel_rfl) (fun _ _ _ h => by cases h.1) (by rfl) ?y210 hHeld ?r210
    case y210 =>
      intro wS hS
      go_simp
      all_goals with_reducible rfl
    try simp only [Act.put, List.setIfInBounds_toArray, List.set_cons_zero, List.set_cons_succ]
    refine Reg.take_yes (i := 17) (d := some 52) (v := ?v211) rfl rfl (by kernel_rfl) (by kernel_rfl) (by kernel_rfl) (fun _ _ _ h => by cases h.1) (by rfl) ?y211 hHeld ?r211
    case y211 =>
      intro wS hS
      go_simp
      all_goals with_reducible rfl
    try simp only [Act.put, List.setIfInBounds_toArray, List.set_cons_zero, List.set_cons_succ]
    refine Reg.take_yes (i := 18) (d := some 53) (v := ?v212) rfl rfl (by kernel_rfl) (by kernel_rfl) (by kernel_rfl) (fun _ _ _ h => by cases h.1) (by rfl) ?y212 hHeld ?r212
    case y212 =>
      intro wS hS
      go_simp
      all_goals with_reducible rfl
    try simp only [Act.put, List.setIfInBounds_toArray, List.set_cons_zero, List.set_cons_succ]
    refine Reg.take_yes (i := 19) (d := some 54) (v := ?v213) rfl rfl (by kernel_rfl) (by kernel_rfl) (by kernel_rfl) (fun _ _ _ h => by cases h.1) (by rfl) ?y213 hHeld ?r213
    case y213 =>
      intro wS hS
      go_simp
      all_goals with_reducible rfl
    try simp only [Act.put, List.setIfInBounds_toArray, List.set_cons_zero, List.set_cons_succ]
    refine Reg.take_yes (i := 20) (d := some 55) (v := ?v214) rfl rfl (by kernel_rfl) (by kernel_rfl) (by kernel_rfl) (fun _ _ _ h => by cases h.1) (by rfl) ?y214 hHeld ?r214
    case y214 =>
      intro wS hS
      obtain ⟨sL, sB, s0, s1, s2, s3, s4, s5, z0, z1⟩ := hS
      go_simp
      all_goals with_reducible rfl
    try simp only [Act.put, List.setIfInBounds_toArray, List.set_cons_zero, List.set_cons_succ]
    refine Reg.take_yes (i := 21) (d := some 56) (v := ?v215) rfl rfl (by kernel_rfl) (by kernel_rfl) (by kernel_rfl) (fun _ _ _ h => by cases h.1) (by rfl) ?y215 hHeld ?r215
    case y215 =>
      intro wS hS
      go_simp
      all_goals with_reducible rfl
    try simp only [Act.put, List.setIfInBounds_toArray, List.set_cons_zero, List.set_cons_succ]
    refine Reg.take_yes (i := 22) (d := some 57) (v := ?v216) rfl rfl (by kernel_rfl) (by kernel_rfl) (by kernel_rfl) (fun _ _ _ h => by cases h.1) (by rfl) ?y216 hHeld ?r216
    case y216 =>
      intro wS hS
      go_simp
      all_goals with_reducible rfl
    try simp only [Act.put, List.setIfInBounds_toArray, List.set_cons_zero, List.set_cons_succ]
    refine Reg.take_yes (i := 23) (d := some 58) (v := ?v217) rfl rfl (by kernel_rfl) (by kernel_rfl) (by kernel_rfl) (fun _ _ _ h => by cases h.1) (by rfl) ?y217 hHeld ?r217
    case y217 =>
      intro wS hS
      go_simp
      all_goals with_reducible rfl
    try simp only [Act.put, List.setIfInBounds_toArray, List.set_cons_zero, List.set_cons_succ]
    refine Reg.take_yes (i := 24) (d := some 59) (v := ?v218) rfl rfl (by kernel_rfl) (by kernel_rfl) (by kernel_rfl) (fun _ _ _ h => by cases h.1) (by rfl) ?y218 hHeld ?r218
    case y218 =>
      intro wS hS
      go_simp
      all_goals with_reducible rfl
    try simp only [Act.put, List.setIfInBounds_toArray, List.set_cons_zero, List.set_cons_succ]
    refine Reg.take_yes (i := 25) (d := some 60) (v := ?v219) rfl rfl (by kernel_rfl) (by kernel_rfl) (by kernel_rfl) (fun _ _ _ h => by cases h.1) (by rfl) ?y219 hHeld ?r219
    case y219 =>
      intro wS hS
      go_simp
      all_goals with_reducible rfl
    try simp only [Act.put, List.setIfInBounds_toArray, List.set_cons_zero, List.set_cons_succ]
    refine wpAnyH_done (by kernel_rfl) ?_ _
    refine ⟨rfl, ?_, hHeld⟩
    with_reducible rfl
  rintro w3 ⟨hL, hB, s0, s1, s2, s3, s4, s5, z0, z1⟩
  have hid3 := Lib.hid hB
  have P3 := Lib.hid (Own3.mk z0 s0 s1 s2)
  clear hL hB s0 s1 s2 s3 s4 s5 z0 z1
  clear eBel1 eLd1 ePBlk1 eXBlk1
  have Pq0 := P3.out.c0
  have Pq1 := P3.out.c1
  have Pq2 := P3.out.c2
  go_wp2_with fail
  clear Pq0 Pq1 Pq2
  have eBel2 := Lib.hid ((hid3.out).drew)
  have eLd2 := Lib.hid (HL.out.below (eBel2.out))
  have ePBlk2 := Lib.hid ((P3.out).below (Below.refl _ _).drew)
  clear hid3 P3
  refine Reg.cut (S := (fun w' => Ld w' ∧ Below w.heap.size w w' ∧ w'.cell? ⟨w.heap.size, 0, none⟩ = some (.int .i64 m) ∧ w'.cell? ⟨w.heap.size, 1, none⟩ = some (.int .u64 f) ∧ w'.cell? ⟨w.heap.size, 2, none⟩ = some (.int .u64 o) ∧ w.heap.size < w'.heap.size)) (A := ?hA220) ?hreg220 ?hrest220
  case hreg220 =>
    refine wp_region_held_drew (S := (fun w' => Ld w' ∧ Below w.heap.size w w' ∧ w'.cell? ⟨w.heap.size, 0, none⟩ = some (.int .i64 m) ∧ w'.cell? ⟨w.heap.size, 1, none⟩ = some (.int .u64 f) ∧ w'.cell? ⟨w.heap.size, 2, none⟩ = some (.int .u64 o) ∧ w.heap.size < w'.heap.size)) (by kernel_rfl) (⟨eLd2.out, eBel2.out, (ePBlk2.out).c0, (ePBlk2.out).c1, (ePBlk2.out).c2, (ePBlk2.out).lt⟩) (fun hHeld => ?_)
    refine Reg.take_yes (i := 0) (d := some 61) (v := ?v221) rfl rfl (by kernel_rfl) (by kernel_rfl) (by kernel_rfl) (fun _ _ _ h => by cases h.1) (by rfl) ?y221 hHeld ?r221
    case y221 =>
      intro wS hS
      obtain ⟨sL, sB, s0, s1, s2, z0⟩ := hS
      go_simp
      all_goals with_reducible rfl
    try simp only [Act.put, List.setIfInBounds_toArray, List.set_cons_zero, List.set_cons_succ]
    refine Reg.take_yes (i := 2) (d := some 63) (v := ?v222) rfl rfl (by kernel_rfl) (by kernel_rfl) (by kernel_rfl) (fun _ _ _ h => by cases h.1) (by rfl) ?y222 hHeld ?r222
    case y222 =>
      intro wS hS
      obtain ⟨sL, sB, s0, s1, s2, z0⟩ := hS
      go_simp
      all_goals with_reducible rfl
    try simp only [Act.put, List.setIfInBounds_toArray, List.set_cons_zero, List.set_cons_succ]
    refine wpAnyH_ready (rs := [1]) (by kernel_rfl) (by simp) ?_
    refine Reg.cons_yes rfl (by rfl) (fun K hK => ?_) ?_
    · go_simp
      have hH := hHeld
      obtain ⟨sL, sB, s0, s1, s2, z0⟩ := hH
      refine Calls.mono (HR.out _ sL) ?_
      rintro e wA ⟨rfl, hb⟩
      refine hK.out _ _ (⟨sL.below hb, below_then sB sB.size hb, cell_later hb s0, cell_later hb s1, cell_later hb s2, Nat.lt_of_lt_of_le z0 hb.size⟩) (fun hHeld => ?_)
      clear hK K
      try simp only [Act.put, List.setIfInBounds_toArray, List.set_cons_zero, List.set_cons_succ]
      refine wpAnyH_ready (rs := [3]) (by kernel_rfl) (by simp) ?_
      refine Reg.cons_yes rfl (by rfl) (fun K hK => ?_) ?_
      · go_simp
        have hH := hHeld
        obtain ⟨sL, sB, s0, s1, s2, z0⟩ := hH
        refine Calls.mono (HS.out _ sL) ?_
        rintro e wA ⟨rfl, hb⟩
        refine hK.out _ _ (⟨sL.below hb, below_then sB sB.size hb, cell_later hb s0, cell_later hb s1, cell_later hb s2, Nat.lt_of_lt_of_le z0 hb.size⟩) (fun hHeld => ?_)
        clear hK K
        try simp only [Act.put, List.setIfInBounds_toArray, List.set_cons_zero, List.set_cons_succ]
        refine Reg.take_yes (i := 4) (d := some 65) (v := ?v223) rfl rfl (by kernel_rfl) (by kernel_rfl) (by kernel_rfl) (fun _ _ _ h => by cases h.1) (by rfl) ?y223 hHeld ?r223
        case y223 =>
          intro wS hS
          go_simp
          all_goals with_reducible rfl
        try simp only [Act.put, List.setIfInBounds_toArray, List.set_cons_zero, List.set_cons_succ]
        refine Reg.take_yes (i := 5) (d := some 66) (v := ?v224) rfl rfl (by kernel_rfl) (by kernel_rfl) (by kernel_rfl) (fun _ _ _ h => by cases h.1) (by rfl) ?y224 hHeld ?r224
        case y224 =>
          intro wS hS
          go_simp
          all_goals with_reducible rfl
        try simp only [Act.put, List.setIfInBounds_toArray, List.set_cons_zero, List.set_cons_succ]
        refine Reg.take_yes (i := 6) (d := some 67) (v := ?v225) rfl rfl (by kernel_rfl) (by kernel_rfl) (by kernel_rfl) (fun _ _ _ h => by cases h.1) (by rfl) ?y225 hHeld ?r225
        case y225 =>
          intro wS hS
          obtain ⟨sL, sB, s0, s1, s2, z0⟩ := hS
          go_simp
          all_goals with_reducible rfl
        try simp only [Act.put, List.setIfInBounds_toArray, List.set_cons_zero, List.set_cons_succ]
        refine wpAnyH_ready (rs := [7]) (by kernel_rfl) (by simp) ?_
        refine Reg.cons_yes rfl (by rfl) (fun K hK => ?_) ?_
        · go_simp
          have hH := hHeld
          obtain ⟨sL, sB, s0, s1, s2, z0⟩ := hH
          refine Calls.mono (HS.out _ sL) ?_
          rintro e wA ⟨rfl, hb⟩
          refine hK.out _ _ (⟨sL.below hb, below_then sB sB.size hb, cell_later hb s0, cell_later hb s1, cell_later hb s2, Nat.lt_of_lt_of_le z0 hb.size⟩) (fun hHeld => ?_)
          clear hK K
          try simp only [Act.put, List.setIfInBounds_toArray, List.set_cons_zero, List.set_cons_succ]
          refine Reg.take_yes (i := 8) (d := some 69) (v := ?v226) rfl rfl (by kernel_rfl) (by kernel_rfl) (by kernel_rfl) (fun _ _ _ h => by cases h.1) (by rfl) ?y226 hHeld ?r226
          case y226 =>
            intro wS hS
            go_simp
            all_goals with_reducible rfl
          try simp only [Act.put, List.setIfInBounds_toArray, List.set_cons_zero, List.set_cons_succ]
          refine Reg.take_yes (i := 9) (d := some 70) (v := ?v227) rfl rfl (by kernel_rfl) (by kernel_rfl) (by kernel_rfl) (fun _ _ _ h => by cases h.1) (by rfl) ?y227 hHeld ?r227
          case y227 =>
            intro wS hS
            go_simp
            all_goals with_reducible rfl
          try simp only [Act.put, List.setIfInBounds_toArray, List.set_cons_zero, List.set_cons_succ]
          refine wpAnyH_done (by kernel_rfl) ?_ _
          refine ⟨rfl, ?_, hHeld⟩
          with_reducible rfl
        exact AllReadyH.nil
      exact AllReadyH.nil
    exact AllReadyH.nil
  rintro w4 ⟨hL, hB, s0, s1, s2, z0⟩
  have hid4 := Lib.hid hB
  have P4 := Lib.hid (Own3.mk z0 s0 s1 s2)
  clear hL hB s0 s1 s2 z0
  clear eBel2 eLd2 ePBlk2
  have Pq0 := P4.out.c0
  have Pq1 := P4.out.c1
  have Pq2 := P4.out.c2
  go_wp2_with fail
  clear Pq0 Pq1 Pq2
  have eBel3 := Lib.hid ((hid4.out).drew)
  have eLd3 := Lib.hid (HL.out.below (eBel3.out))
  have ePBlk3 := Lib.hid ((P4.out).below (Below.refl _ _).drew)
  clear hid4 P4
  refine Reg.cut (S := (fun w' => Ld w' ∧ Below w.heap.size w w' ∧ w'.cell? ⟨w.heap.size, 0, none⟩ = some (.int .i64 m) ∧ w'.cell? ⟨w.heap.size, 1, none⟩ = some (.int .u64 f) ∧ w'.cell? ⟨w.heap.size, 2, none⟩ = some (.int .u64 o) ∧ w.heap.size < w'.heap.size)) (A := ?hA228) ?hreg228 ?hrest228
  case hreg228 =>
    refine wp_region_held_drew (S := (fun w' => Ld w' ∧ Below w.heap.size w w' ∧ w'.cell? ⟨w.heap.size, 0, none⟩ = some (.int .i64 m) ∧ w'.cell? ⟨w.heap.size, 1, none⟩ = some (.int .u64 f) ∧ w'.cell? ⟨w.heap.size, 2, none⟩ = some (.int .u64 o) ∧ w.heap.size < w'.heap.size)) (by kernel_rfl) (⟨eLd3.out, eBel3.out, (ePBlk3.out).c0, (ePBlk3.out).c1, (ePBlk3.out).c2, (ePBlk3.out).lt⟩) (fun hHeld => ?_)
    refine Reg.take_yes (i := 0) (d := some 71) (v := ?v229) rfl rfl (by kernel_rfl) (by kernel_rfl) (by kernel_rfl) (fun _ _ _ h => by cases h.1) (by rfl) ?y229 hHeld ?r229
    case y229 =>
      intro wS hS
      obtain ⟨sL, sB, s0, s1, s2, z0⟩ := hS
      go_simp
      all_goals with_reducible rfl
    try simp only [Act.put, List.setIfInBounds_toArray, List.set_cons_zero, List.set_cons_succ]
    refine Reg.take_yes (i := 2) (d := some 73) (v := ?v230) rfl rfl (by kernel_rfl) (by kernel_rfl) (by kernel_rfl) (fun _ _ _ h => by cases h.1) (by rfl) ?y230 hHeld ?r230
    case y230 =>
      intro wS hS
      obtain ⟨sL, sB, s0, s1, s2, z0⟩ := hS
      go_simp
      all_goals with_reducible rfl
    try simp only [Act.put, List.setIfInBounds_toArray, List.set_cons_zero, List.set_cons_succ]
    refine wpAnyH_ready (rs := [1]) (by kernel_rfl) (by simp) ?_
    refine Reg.cons_yes rfl (by rfl) (fun K hK => ?_) ?_
    · go_simp
      have hH := hHeld
      obtain ⟨sL, sB, s0, s1, s2, z0⟩ := hH
      refine Calls.mono (HR.out _ sL) ?_
      rintro e wA ⟨rfl, hb⟩
      refine hK.out _ _ (⟨sL.below hb, below_then sB sB.size hb, cell_later hb s0, cell_later hb s1, cell_later hb s2, Nat.lt_of_lt_of_le z0 hb.size⟩) (fun hHeld => ?_)
      clear hK K
      try simp only [Act.put, List.setIfInBounds_toArray, List.set_cons_zero, List.set_cons_succ]
      refine wpAnyH_ready (rs := [3]) (by kernel_rfl) (by simp) ?_
      refine Reg.cons_yes rfl (by rfl) (fun K hK => ?_) ?_
      · go_simp
        have hH := hHeld
        obtain ⟨sL, sB, s0, s1, s2, z0⟩ := hH
        refine Calls.mono (HS.out _ sL) ?_
        rintro e wA ⟨rfl, hb⟩
        refine hK.out _ _ (⟨sL.below hb, below_then sB sB.size hb, cell_later hb s0, cell_later hb s1, cell_later hb s2, Nat.lt_of_lt_of_le z0 hb.size⟩) (fun hHeld => ?_)
        clear hK K
        try simp only [Act.put, List.setIfInBounds_toArray, List.set_cons_zero, List.set_cons_succ]
        refine Reg.take_yes (i := 4) (d := some 75) (v := ?v231) rfl rfl (by kernel_rfl) (by kernel_rfl) (by kernel_rfl) (fun _ _ _ h => by cases h.1) (by rfl) ?y231 hHeld ?r231
        case y231 =>
          intro wS hS
          go_simp
          all_goals with_reducible rfl
        try simp only [Act.put, List.setIfInBounds_toArray, List.set_cons_zero, List.set_cons_succ]
        refine Reg.take_yes (i := 5) (d := some 6) (v := ?v232) rfl rfl (by kernel_rfl) (by kernel_rfl) (by kernel_rfl) (fun _ _ _ h => by cases h.1) (by rfl) ?y232 hHeld ?r232
        case y232 =>
          intro wS hS
          go_simp
          all_goals with_reducible rfl
        try simp only [Act.put, List.setIfInBounds_toArray, List.set_cons_zero, List.set_cons_succ]
        refine wpAnyH_done (by kernel_rfl) ?_ _
        refine ⟨rfl, ?_, hHeld⟩
        with_reducible rfl
      exact AllReadyH.nil
    exact AllReadyH.nil
  rintro w5 ⟨hL, hB, s0, s1, s2, z0⟩
  have hid5 := Lib.hid hB
  have P5 := Lib.hid (Own3.mk z0 s0 s1 s2)
  clear hL hB s0 s1 s2 z0
  clear eBel3 eLd3 ePBlk3
  have Pq0 := P5.out.c0
  have Pq1 := P5.out.c1
  have Pq2 := P5.out.c2
  go_wp2_with fail
  go_ret
  exact ⟨rfl, hid5.out⟩
set_option maxRecDepth 100000 in
set_option maxHeartbeats 4000000 in
theorem walk_hi_yes (m f o u many t0 t1 t2 x er g0 g1 g2 g c : Int) (was : Bool) (w : World) (hl : Ld w) (h1 : 16 < many)
    (hx : Says 7 #[.int .i64 many] (.tuple #[.agg #[.int .i64 0, .int .u64 0, .int .u64 0], .int .i64 1]))
    (hr : Says 9 #[.agg #[.int .i64 m, .int .u64 f, .int .u64 o]] (.bool true))
    (hs : Says 10 #[.agg #[.int .i64 m, .int .u64 f, .int .u64 o]] (.bool true))
    (ht : Says 11 #[.agg #[.int .i64 m, .int .u64 f, .int .u64 o]] (.tuple #[.agg #[.int .i64 t0, .int .u64 t1, .int .u64 t2], .int .u64 x, .bool was, .int .i64 er]))
    (hu : Says 12 #[.agg #[.int .i64 m, .int .u64 f, .int .u64 o]] (.tuple #[.agg #[.int .i64 t0, .int .u64 t1, .int .u64 t2], .int .u64 x, .bool was, .int .i64 er]))
    (hg : Says 13 #[.agg #[.int .i64 m, .int .u64 f, .int .u64 o], .int .u64 u] (.tuple #[.agg #[.int .i64 g0, .int .u64 g1, .int .u64 g2], .int .i64 g]))
    (hh : Says 14 #[.agg #[.int .i64 m, .int .u64 f, .int .u64 o], .int .u64 u] (.tuple #[.agg #[.int .i64 g0, .int .u64 g1, .int .u64 g2], .int .i64 g]))
    (hm : Says 15 #[.agg #[.int .i64 m, .int .u64 f, .int .u64 o]] (.int .i64 c))
    (hn : Says 16 #[.agg #[.int .i64 m, .int .u64 f, .int .u64 o]] (.int .i64 c)) :
    Calls Tryd.prog 3 #[.agg #[.int .i64 m, .int .u64 f, .int .u64 o], .int .u64 u, .int .i64 many] w fun e w' => e = .returned (.bool true) ∧ Below w.heap.size w w' := by
  have HX := Lib.hid hx
  have HR := Lib.hid hr
  have HS := Lib.hid hs
  have HT := Lib.hid ht
  have HU := Lib.hid hu
  have HG := Lib.hid hg
  have HH := Lib.hid hh
  have HM := Lib.hid hm
  have HN := Lib.hid hn
  clear hx hr hs ht hu hg hh hm hn
  have h1a : 1 ≤ many := by omega
  have h1b : decide (many ≤ 16) = false := decide_eq_false (by omega)
  have HL := Lib.hid hl
  have hid0 := Lib.hid (Below.refl w.heap.size w)
  clear hl
  go_enter Tryd.func3, Tryd.ntmps3
  go_wp2_with fail
  refine (atlaslaw18_awake.calls true _ (HL.out.below (below_alloc hid0.out _)) rfl).mono ?_
  rintro e w1 ⟨rfl, hb⟩
  have hid1 := Lib.hid (below_then (below_alloc hid0.out _) (below_alloc hid0.out _).size hb)
  have P1 := Lib.hid ((Own3.new w (.int .i64 m) (.int .u64 f) (.int .u64 o) 24).below hb)
  clear hb hid0 
  have Pq0 := P1.out.c0
  have Pq1 := P1.out.c1
  have Pq2 := P1.out.c2
  go_wp2_with fail
  clear Pq0 Pq1 Pq2
  refine (HX.out _ (HL.out.below hid1.out)).mono ?_
  rintro e w2 ⟨rfl, hb⟩
  have hid2 := Lib.hid (below_then hid1.out hid1.out.size hb)
  have P2 := Lib.hid (P1.out.below hb)
  clear hb hid1 P1
  have Pq0 := P2.out.c0
  have Pq1 := P2.out.c1
  have Pq2 := P2.out.c2
  go_wp2_with fail
  clear Pq0 Pq1 Pq2
  have eBel1 := Lib.hid (fun o => (below_alloc hid2.out o).drew)
  have eLd1 := Lib.hid (fun o => HL.out.below (eBel1.out o))
  have ePBlk1 := Lib.hid (fun o => (P2.out.alloc o).below (Below.refl _ _).drew)
  have eXBlk1 := Lib.hid ((Own3.new w2 (.int .i64 0) (.int .u64 0) (.int .u64 0) 24).below (Below.refl _ _).drew)
  clear hid2 P2
  refine Reg.cut (S := (fun w' => Ld w' ∧ Below w.heap.size w w' ∧ w'.cell? ⟨w.heap.size, 0, none⟩ = some (.int .i64 m) ∧ w'.cell? ⟨w.heap.size, 1, none⟩ = some (.int .u64 f) ∧ w'.cell? ⟨w.heap.size, 2, none⟩ = some (.int .u64 o) ∧ w'.cell? ⟨w2.heap.size, 0, none⟩ = some (.int .i64 0) ∧ w'.cell? ⟨w2.heap.size, 1, none⟩ = some (.int .u64 0) ∧ w'.cell? ⟨w2.heap.size, 2, none⟩ = some (.int .u64 0) ∧ w.heap.size < w'.heap.size ∧ w2.heap.size < w'.heap.size)) (A := ?hA233) ?hreg233 ?hrest233
  case hreg233 =>
    refine wp_region_held_drew (S := (fun w' => Ld w' ∧ Below w.heap.size w w' ∧ w'.cell? ⟨w.heap.size, 0, none⟩ = some (.int .i64 m) ∧ w'.cell? ⟨w.heap.size, 1, none⟩ = some (.int .u64 f) ∧ w'.cell? ⟨w.heap.size, 2, none⟩ = some (.int .u64 o) ∧ w'.cell? ⟨w2.heap.size, 0, none⟩ = some (.int .i64 0) ∧ w'.cell? ⟨w2.heap.size, 1, none⟩ = some (.int .u64 0) ∧ w'.cell? ⟨w2.heap.size, 2, none⟩ = some (.int .u64 0) ∧ w.heap.size < w'.heap.size ∧ w2.heap.size < w'.heap.size)) (by kernel_rfl) (⟨eLd1.out _, eBel1.out _, (ePBlk1.out _).c0, (ePBlk1.out _).c1, (ePBlk1.out _).c2, (eXBlk1.out).c0, (eXBlk1.out).c1, (eXBlk1.out).c2, (ePBlk1.out _).lt, (eXBlk1.out).lt⟩) (fun hHeld => ?_)
    refine Reg.take_yes (i := 0) (d := some 35) (v := ?v234) rfl rfl (by kernel_rfl) (by kernel_rfl) (by kernel_rfl) (fun _ _ _ h => by cases h.1) (by rfl) ?y234 hHeld ?r234
    case y234 =>
      intro wS hS
      go_simp
      all_goals with_reducible rfl
    try simp only [Act.put, List.setIfInBounds_toArray, List.set_cons_zero, List.set_cons_succ]
    refine Reg.take_yes (i := 1) (d := some 36) (v := ?v235) rfl rfl (by kernel_rfl) (by kernel_rfl) (by kernel_rfl) (fun _ _ _ h => by cases h.1) (by rfl) ?y235 hHeld ?r235
    case y235 =>
      intro wS hS
      go_simp
      all_goals with_reducible rfl
    try simp only [Act.put, List.setIfInBounds_toArray, List.set_cons_zero, List.set_cons_succ]
    refine Reg.take_yes (i := 2) (d := some 37) (v := ?v236) rfl rfl (by kernel_rfl) (by kernel_rfl) (by kernel_rfl) (fun _ _ _ h => by cases h.1) (by rfl) ?y236 hHeld ?r236
    case y236 =>
      intro wS hS
      go_simp
      all_goals with_reducible rfl
    try simp only [Act.put, List.setIfInBounds_toArray, List.set_cons_zero, List.set_cons_succ]
    refine Reg.take_yes (i := 3) (d := some 38) (v := ?v237) rfl rfl (by kernel_rfl) (by kernel_rfl) (by kernel_rfl) (fun _ _ _ h => by cases h.1) (by rfl) ?y237 hHeld ?r237
    case y237 =>
      intro wS hS
      go_simp
      all_goals with_reducible rfl
    try simp only [Act.put, List.setIfInBounds_toArray, List.set_cons_zero, List.set_cons_succ]
    refine Reg.take_yes (i := 4) (d := some 39) (v := ?v238) rfl rfl (by kernel_rfl) (by kernel_rfl) (by kernel_rfl) (fun _ _ _ h => by cases h.1) (by rfl) ?y238 hHeld ?r238
    case y238 =>
      intro wS hS
      go_simp
      all_goals with_reducible rfl
    try simp only [Act.put, List.setIfInBounds_toArray, List.set_cons_zero, List.set_cons_succ]
    refine Reg.take_yes (i := 5) (d := some 40) (v := ?v239) rfl rfl (by kernel_rfl) (by kernel_rfl) (by kernel_rfl) (fun _ _ _ h => by cases h.1) (by rfl) ?y239 hHeld ?r239
    case y239 =>
      intro wS hS
      go_simp
      all_goals with_reducible rfl
    try simp only [Act.put, List.setIfInBounds_toArray, List.set_cons_zero, List.set_cons_succ]
    refine Reg.take_yes (i := 6) (d := some 41) (v := ?v240) rfl rfl (by kernel_rfl) (by kernel_rfl) (by kernel_rfl) (fun _ _ _ h => by cases h.1) (by rfl) ?y240 hHeld ?r240
    case y240 =>
      intro wS hS
      go_simp
      all_goals with_reducible rfl
    try simp only [Act.put, List.setIfInBounds_toArray, List.set_cons_zero, List.set_cons_succ]
    refine Reg.take_no (i := 7) (d := some 42) rfl rfl (by kernel_rfl) (by kernel_rfl) (by kernel_rfl) (fun _ _ _ h => by cases h.1) (by rfl) hHeld ?_
    try simp only [Act.put, List.setIfInBounds_toArray, List.set_cons_zero, List.set_cons_succ]
    refine Reg.take_no (i := 8) (d := some 43) rfl rfl (by kernel_rfl) (by kernel_rfl) (by kernel_rfl) (fun _ _ _ h => by cases h.1) (by rfl) hHeld ?_
    try simp only [Act.put, List.setIfInBounds_toArray, List.set_cons_zero, List.set_cons_succ]
    refine Reg.take_no (i := 9) (d := some 44) rfl rfl (by kernel_rfl) (by kernel_rfl) (by kernel_rfl) (fun _ _ _ h => by cases h.1) (by rfl) hHeld ?_
    try simp only [Act.put, List.setIfInBounds_toArray, List.set_cons_zero, List.set_cons_succ]
    refine Reg.take_no (i := 10) (d := some 45) rfl rfl (by kernel_rfl) (by kernel_rfl) (by kernel_rfl) (fun _ _ _ h => by cases h.1) (by rfl) hHeld ?_
    try simp only [Act.put, List.setIfInBounds_toArray, List.set_cons_zero, List.set_cons_succ]
    refine Reg.take_yes (i := 11) (d := some 46) (v := ?v241) rfl rfl (by kernel_rfl) (by kernel_rfl) (by kernel_rfl) (fun _ _ _ h => by cases h.1) (by rfl) ?y241 hHeld ?r241
    case y241 =>
      intro wS hS
      go_simp
      all_goals with_reducible rfl
    try simp only [Act.put, List.setIfInBounds_toArray, List.set_cons_zero, List.set_cons_succ]
    refine Reg.take_yes (i := 12) (d := some 47) (v := ?v242) rfl rfl (by kernel_rfl) (by kernel_rfl) (by kernel_rfl) (fun _ _ _ h => by cases h.1) (by rfl) ?y242 hHeld ?r242
    case y242 =>
      intro wS hS
      go_simp
      all_goals with_reducible rfl
    try simp only [Act.put, List.setIfInBounds_toArray, List.set_cons_zero, List.set_cons_succ]
    refine Reg.take_yes (i := 13) (d := some 48) (v := ?v243) rfl rfl (by kernel_rfl) (by kernel_rfl) (by kernel_rfl) (fun _ _ _ h => by cases h.1) (by rfl) ?y243 hHeld ?r243
    case y243 =>
      intro wS hS
      go_simp
      all_goals with_reducible rfl
    try simp only [Act.put, List.setIfInBounds_toArray, List.set_cons_zero, List.set_cons_succ]
    refine Reg.take_yes (i := 14) (d := some 49) (v := ?v244) rfl rfl (by kernel_rfl) (by kernel_rfl) (by kernel_rfl) (fun _ _ _ h => by cases h.1) (by rfl) ?y244 hHeld ?r244
    case y244 =>
      intro wS hS
      go_simp
      all_goals with_reducible rfl
    try simp only [Act.put, List.setIfInBounds_toArray, List.set_cons_zero, List.set_cons_succ]
    refine Reg.take_yes (i := 15) (d := some 50) (v := ?v245) rfl rfl (by kernel_rfl) (by kernel_rfl) (by kernel_rfl) (fun _ _ _ h => by cases h.1) (by rfl) ?y245 hHeld ?r245
    case y245 =>
      intro wS hS
      go_simp
      all_goals with_reducible rfl
    try simp only [Act.put, List.setIfInBounds_toArray, List.set_cons_zero, List.set_cons_succ]
    refine Reg.take_yes (i := 16) (d := some 51) (v := ?v246) rfl rfl (by kernel_rfl) (by kernel_rfl) (by kernel_rfl) (fun _ _ _ h => by cases h.1) (by rfl) ?y246 hHeld ?r246
    case y246 =>
      intro wS hS
      go_simp
      all_goals with_reducible rfl
    try simp only [Act.put, List.setIfInBounds_toArray, List.set_cons_zero, List.set_cons_succ]
    refine Reg.take_yes (i := 17) (d := some 52) (v := ?v247) rfl rfl (by kernel_rfl) (by kernel_rfl) (by kernel_rfl) (fun _ _ _ h => by cases h.1) (by rfl) ?y247 hHeld ?r247
    case y247 =>
      intro wS hS
      go_simp
      all_goals with_reducible rfl
    try simp only [Act.put, List.setIfInBounds_toArray, List.set_cons_zero, List.set_cons_succ]
    refine Reg.take_yes (i := 18) (d := some 53) (v := ?v248) rfl rfl (by kernel_rfl) (by kernel_rfl) (by kernel_rfl) (fun _ _ _ h => by cases h.1) (by rfl) ?y248 hHeld ?r248
    case y248 =>
      intro wS hS
      go_simp
      all_goals with_reducible rfl
    try simp only [Act.put, List.setIfInBounds_toArray, List.set_cons_zero, List.set_cons_succ]
    refine Reg.take_yes (i := 19) (d := some 54) (v := ?v249) rfl rfl (by kernel_rfl) (by kernel_rfl) (by kernel_rfl) (fun _ _ _ h => by cases h.1) (by rfl) ?y249 hHeld ?r249
    case y249 =>
      intro wS hS
      go_simp
      all_goals with_reducible rfl
    try simp only [Act.put, List.setIfInBounds_toArray, List.set_cons_zero, List.set_cons_succ]
    refine Reg.take_yes (i := 20) (d := some 55) (v := ?v250) rfl rfl (by kernel_rfl) (by kernel_rfl) (by kernel_rfl) (fun _ _ _ h => by cases h.1) (by rfl) ?y250 hHeld ?r250
    case y250 =>
      intro wS hS
      obtain ⟨sL, sB, s0, s1, s2, s3, s4, s5, z0, z1⟩ := hS
      go_simp
      all_goals with_reducible rfl
    try simp only [Act.put, List.setIfInBounds_toArray, List.set_cons_zero, List.set_cons_succ]
    refine Reg.take_yes (i := 21) (d := some 56) (v := ?v251) rfl rfl (by kernel_rfl) (by kernel_rfl) (by kernel_rfl) (fun _ _ _ h => by cases h.1) (by rfl) ?y251 hHeld ?r251
    case y251 =>
      intro wS hS
      go_simp
      all_goals with_reducible rfl
    try simp only [Act.put, List.setIfInBounds_toArray, List.set_cons_zero, List.set_cons_succ]
    refine Reg.take_yes (i := 22) (d := some 57) (v := ?v252) rfl rfl (by kernel_rfl) (by kernel_rfl) (by kernel_rfl) (fun _ _ _ h => by cases h.1) (by rfl) ?y252 hHeld ?r252
    case y252 =>
      intro wS hS
      go_simp
      all_goals with_reducible rfl
    try simp only [Act.put, List.setIfInBounds_toArray, List.set_cons_zero, List.set_cons_succ]
    refine Reg.take_yes (i := 23) (d := some 58) (v := ?v253) rfl rfl (by kernel_rfl) (by kernel_rfl) (by kernel_rfl) (fun _ _ _ h => by cases h.1) (by rfl) ?y253 hHeld ?r253
    case y253 =>
      intro wS hS
      go_simp
      all_goals with_reducible rfl
    try simp only [Act.put, List.setIfInBounds_toArray, List.set_cons_zero, List.set_cons_succ]
    refine Reg.take_yes (i := 24) (d := some 59) (v := ?v254) rfl rfl (by kernel_rfl) (by kernel_rfl) (by kernel_rfl) (fun _ _ _ h => by cases h.1) (by rfl) ?y254 hHeld ?r254
    case y254 =>
      intro wS hS
      go_simp
      all_goals with_reducible rfl
    try simp only [Act.put, List.setIfInBounds_toArray, List.set_cons_zero, List.set_cons_succ]
    refine Reg.take_yes (i := 25) (d := some 60) (v := ?v255) rfl rfl (by kernel_rfl) (by kernel_rfl) (by kernel_rfl) (fun _ _ _ h => by cases h.1) (by rfl) ?y255 hHeld ?r255
    case y255 =>
      intro wS hS
      go_simp
      all_goals with_reducible rfl
    try simp only [Act.put, List.setIfInBounds_toArray, List.set_cons_zero, List.set_cons_succ]
    refine wpAnyH_done (by kernel_rfl) ?_ _
    refine ⟨rfl, ?_, hHeld⟩
    with_reducible rfl
  rintro w3 ⟨hL, hB, s0, s1, s2, s3, s4, s5, z0, z1⟩
  have hid3 := Lib.hid hB
  have P3 := Lib.hid (Own3.mk z0 s0 s1 s2)
  clear hL hB s0 s1 s2 s3 s4 s5 z0 z1
  clear eBel1 eLd1 ePBlk1 eXBlk1
  have Pq0 := P3.out.c0
  have Pq1 := P3.out.c1
  have Pq2 := P3.out.c2
  go_wp2_with fail
  clear Pq0 Pq1 Pq2
  have eBel2 := Lib.hid ((hid3.out).drew)
  have eLd2 := Lib.hid (HL.out.below (eBel2.out))
  have ePBlk2 := Lib.hid ((P3.out).below (Below.refl _ _).drew)
  clear hid3 P3
  refine Reg.cut (S := (fun w' => Ld w' ∧ Below w.heap.size w w' ∧ w'.cell? ⟨w.heap.size, 0, none⟩ = some (.int .i64 m) ∧ w'.cell? ⟨w.heap.size, 1, none⟩ = some (.int .u64 f) ∧ w'.cell? ⟨w.heap.size, 2, none⟩ = some (.int .u64 o) ∧ w.heap.size < w'.heap.size)) (A := ?hA256) ?hreg256 ?hrest256
  case hreg256 =>
    refine wp_region_held_drew (S := (fun w' => Ld w' ∧ Below w.heap.size w w' ∧ w'.cell? ⟨w.heap.size, 0, none⟩ = some (.int .i64 m) ∧ w'.cell? ⟨w.heap.size, 1, none⟩ = some (.int .u64 f) ∧ w'.cell? ⟨w.heap.size, 2, none⟩ = some (.int .u64 o) ∧ w.heap.size < w'.heap.size)) (by kernel_rfl) (⟨eLd2.out, eBel2.out, (ePBlk2.out).c0, (ePBlk2.out).c1, (ePBlk2.out).c2, (ePBlk2.out).lt⟩) (fun hHeld => ?_)
    refine Reg.take_yes (i := 0) (d := some 61) (v := ?v257) rfl rfl (by kernel_rfl) (by kernel_rfl) (by kernel_rfl) (fun _ _ _ h => by cases h.1) (by rfl) ?y257 hHeld ?r257
    case y257 =>
      intro wS hS
      obtain ⟨sL, sB, s0, s1, s2, z0⟩ := hS
      go_simp
      all_goals with_reducible rfl
    try simp only [Act.put, List.setIfInBounds_toArray, List.set_cons_zero, List.set_cons_succ]
    refine Reg.take_yes (i := 2) (d := some 63) (v := ?v258) rfl rfl (by kernel_rfl) (by kernel_rfl) (by kernel_rfl) (fun _ _ _ h => by cases h.1) (by rfl) ?y258 hHeld ?r258
    case y258 =>
      intro wS hS
      obtain ⟨sL, sB, s0, s1, s2, z0⟩ := hS
      go_simp
      all_goals with_reducible rfl
    try simp only [Act.put, List.setIfInBounds_toArray, List.set_cons_zero, List.set_cons_succ]
    refine wpAnyH_ready (rs := [1]) (by kernel_rfl) (by simp) ?_
    refine Reg.cons_yes rfl (by rfl) (fun K hK => ?_) ?_
    · go_simp
      have hH := hHeld
      obtain ⟨sL, sB, s0, s1, s2, z0⟩ := hH
      refine Calls.mono (HR.out _ sL) ?_
      rintro e wA ⟨rfl, hb⟩
      refine hK.out _ _ (⟨sL.below hb, below_then sB sB.size hb, cell_later hb s0, cell_later hb s1, cell_later hb s2, Nat.lt_of_lt_of_le z0 hb.size⟩) (fun hHeld => ?_)
      clear hK K
      try simp only [Act.put, List.setIfInBounds_toArray, List.set_cons_zero, List.set_cons_succ]
      refine wpAnyH_ready (rs := [3]) (by kernel_rfl) (by simp) ?_
      refine Reg.cons_yes rfl (by rfl) (fun K hK => ?_) ?_
      · go_simp
        have hH := hHeld
        obtain ⟨sL, sB, s0, s1, s2, z0⟩ := hH
        refine Calls.mono (HS.out _ sL) ?_
        rintro e wA ⟨rfl, hb⟩
        refine hK.out _ _ (⟨sL.below hb, below_then sB sB.size hb, cell_later hb s0, cell_later hb s1, cell_later hb s2, Nat.lt_of_lt_of_le z0 hb.size⟩) (fun hHeld => ?_)
        clear hK K
        try simp only [Act.put, List.setIfInBounds_toArray, List.set_cons_zero, List.set_cons_succ]
        refine Reg.take_yes (i := 4) (d := some 65) (v := ?v259) rfl rfl (by kernel_rfl) (by kernel_rfl) (by kernel_rfl) (fun _ _ _ h => by cases h.1) (by rfl) ?y259 hHeld ?r259
        case y259 =>
          intro wS hS
          go_simp
          all_goals with_reducible rfl
        try simp only [Act.put, List.setIfInBounds_toArray, List.set_cons_zero, List.set_cons_succ]
        refine Reg.take_yes (i := 5) (d := some 66) (v := ?v260) rfl rfl (by kernel_rfl) (by kernel_rfl) (by kernel_rfl) (fun _ _ _ h => by cases h.1) (by rfl) ?y260 hHeld ?r260
        case y260 =>
          intro wS hS
          go_simp
          all_goals with_reducible rfl
        try simp only [Act.put, List.setIfInBounds_toArray, List.set_cons_zero, List.set_cons_succ]
        refine Reg.take_yes (i := 6) (d := some 67) (v := ?v261) rfl rfl (by kernel_rfl) (by kernel_rfl) (by kernel_rfl) (fun _ _ _ h => by cases h.1) (by rfl) ?y261 hHeld ?r261
        case y261 =>
          intro wS hS
          obtain ⟨sL, sB, s0, s1, s2, z0⟩ := hS
          go_simp
          all_goals with_reducible rfl
        try simp only [Act.put, List.setIfInBounds_toArray, List.set_cons_zero, List.set_cons_succ]
        refine wpAnyH_ready (rs := [7]) (by kernel_rfl) (by simp) ?_
        refine Reg.cons_yes rfl (by rfl) (fun K hK => ?_) ?_
        · go_simp
          have hH := hHeld
          obtain ⟨sL, sB, s0, s1, s2, z0⟩ := hH
          refine Calls.mono (HS.out _ sL) ?_
          rintro e wA ⟨rfl, hb⟩
          refine hK.out _ _ (⟨sL.below hb, below_then sB sB.size hb, cell_later hb s0, cell_later hb s1, cell_later hb s2, Nat.lt_of_lt_of_le z0 hb.size⟩) (fun hHeld => ?_)
          clear hK K
          try simp only [Act.put, List.setIfInBounds_toArray, List.set_cons_zero, List.set_cons_succ]
          refine Reg.take_yes (i := 8) (d := some 69) (v := ?v262) rfl rfl (by kernel_rfl) (by kernel_rfl) (by kernel_rfl) (fun _ _ _ h => by cases h.1) (by rfl) ?y262 hHeld ?r262
          case y262 =>
            intro wS hS
            go_simp
            all_goals with_reducible rfl
          try simp only [Act.put, List.setIfInBounds_toArray, List.set_cons_zero, List.set_cons_succ]
          refine Reg.take_yes (i := 9) (d := some 70) (v := ?v263) rfl rfl (by kernel_rfl) (by kernel_rfl) (by kernel_rfl) (fun _ _ _ h => by cases h.1) (by rfl) ?y263 hHeld ?r263
          case y263 =>
            intro wS hS
            go_simp
            all_goals with_reducible rfl
          try simp only [Act.put, List.setIfInBounds_toArray, List.set_cons_zero, List.set_cons_succ]
          refine wpAnyH_done (by kernel_rfl) ?_ _
          refine ⟨rfl, ?_, hHeld⟩
          with_reducible rfl
        exact AllReadyH.nil
      exact AllReadyH.nil
    exact AllReadyH.nil
  rintro w4 ⟨hL, hB, s0, s1, s2, z0⟩
  have hid4 := Lib.hid hB
  have P4 := Lib.hid (Own3.mk z0 s0 s1 s2)
  clear hL hB s0 s1 s2 z0
  clear eBel2 eLd2 ePBlk2
  have Pq0 := P4.out.c0
  have Pq1 := P4.out.c1
  have Pq2 := P4.out.c2
  go_wp2_with fail
  clear Pq0 Pq1 Pq2
  refine (HT.out _ (HL.out.below hid4.out)).mono ?_
  rintro e w5 ⟨rfl, hb⟩
  have hid5 := Lib.hid (below_then hid4.out hid4.out.size hb)
  have P5 := Lib.hid (P4.out.below hb)
  clear hb hid4 P4
  have Pq0 := P5.out.c0
  have Pr0 := fun o => (P5.out.alloc o).c0
  have Pq1 := P5.out.c1
  have Pr1 := fun o => (P5.out.alloc o).c1
  have Pq2 := P5.out.c2
  have Pr2 := fun o => (P5.out.alloc o).c2
  go_wp2_with fail
  clear Pq0 Pr0 Pq1 Pr1 Pq2 Pr2
  refine (HU.out _ (HL.out.below (below_alloc hid5.out _))).mono ?_
  rintro e w6 ⟨rfl, hb⟩
  have hid6 := Lib.hid (below_then (below_alloc hid5.out _) (below_alloc hid5.out _).size hb)
  have P6 := Lib.hid ((P5.out.alloc _).below hb)
  have A6 := Lib.hid ((Own3.new w5 (.int .i64 t0) (.int .u64 t1) (.int .u64 t2) 24).below hb)
  clear hb hid5 P5
  have Pq0 := P6.out.c0
  have Pr0 := fun o => (P6.out.alloc o).c0
  have Pq1 := P6.out.c1
  have Pr1 := fun o => (P6.out.alloc o).c1
  have Pq2 := P6.out.c2
  have Pr2 := fun o => (P6.out.alloc o).c2
  have Aq0 := A6.out.c0
  have Ar0 := fun o => (A6.out.alloc o).c0
  have Aq1 := A6.out.c1
  have Ar1 := fun o => (A6.out.alloc o).c1
  have Aq2 := A6.out.c2
  have Ar2 := fun o => (A6.out.alloc o).c2
  go_wp2_with fail
  clear Pq0 Pr0 Pq1 Pr1 Pq2 Pr2 Aq0 Ar0 Aq1 Ar1 Aq2 Ar2
  refine (HG.out _ (HL.out.below (below_alloc hid6.out _))).mono ?_
  rintro e w7 ⟨rfl, hb⟩
  have hid7 := Lib.hid (below_then (below_alloc hid6.out _) (below_alloc hid6.out _).size hb)
  have P7 := Lib.hid ((P6.out.alloc _).below hb)
  have A7 := Lib.hid ((A6.out.alloc _).below hb)
  have B7 := Lib.hid ((Own3.new w6 (.int .i64 t0) (.int .u64 t1) (.int .u64 t2) 24).below hb)
  clear hb hid6 P6 A6
  have Pq0 := P7.out.c0
  have Pr0 := fun o => (P7.out.alloc o).c0
  have Pq1 := P7.out.c1
  have Pr1 := fun o => (P7.out.alloc o).c1
  have Pq2 := P7.out.c2
  have Pr2 := fun o => (P7.out.alloc o).c2
  have Aq0 := A7.out.c0
  have Ar0 := fun o => (A7.out.alloc o).c0
  have Aq1 := A7.out.c1
  have Ar1 := fun o => (A7.out.alloc o).c1
  have Aq2 := A7.out.c2
  have Ar2 := fun o => (A7.out.alloc o).c2
  have Bq0 := B7.out.c0
  have Br0 := fun o => (B7.out.alloc o).c0
  have Bq1 := B7.out.c1
  have Br1 := fun o => (B7.out.alloc o).c1
  have Bq2 := B7.out.c2
  have Br2 := fun o => (B7.out.alloc o).c2
  go_wp2_with fail
  clear Pq0 Pr0 Pq1 Pr1 Pq2 Pr2 Aq0 Ar0 Aq1 Ar1 Aq2 Ar2 Bq0 Br0 Bq1 Br1 Bq2 Br2
  refine (HH.out _ (HL.out.below (below_alloc hid7.out _))).mono ?_
  rintro e w8 ⟨rfl, hb⟩
  have hid8 := Lib.hid (below_then (below_alloc hid7.out _) (below_alloc hid7.out _).size hb)
  have P8 := Lib.hid ((P7.out.alloc _).below hb)
  have A8 := Lib.hid ((A7.out.alloc _).below hb)
  have B8 := Lib.hid ((B7.out.alloc _).below hb)
  have C8 := Lib.hid ((Own3.new w7 (.int .i64 g0) (.int .u64 g1) (.int .u64 g2) 24).below hb)
  clear hb hid7 P7 A7 B7
  have Pq0 := P8.out.c0
  have Pr0 := fun o => (P8.out.alloc o).c0
  have Pq1 := P8.out.c1
  have Pr1 := fun o => (P8.out.alloc o).c1
  have Pq2 := P8.out.c2
  have Pr2 := fun o => (P8.out.alloc o).c2
  have Aq0 := A8.out.c0
  have Ar0 := fun o => (A8.out.alloc o).c0
  have Aq1 := A8.out.c1
  have Ar1 := fun o => (A8.out.alloc o).c1
  have Aq2 := A8.out.c2
  have Ar2 := fun o => (A8.out.alloc o).c2
  have Bq0 := B8.out.c0
  have Br0 := fun o => (B8.out.alloc o).c0
  have Bq1 := B8.out.c1
  have Br1 := fun o => (B8.out.alloc o).c1
  have Bq2 := B8.out.c2
  have Br2 := fun o => (B8.out.alloc o).c2
  have Cq0 := C8.out.c0
  have Cr0 := fun o => (C8.out.alloc o).c0
  have Cq1 := C8.out.c1
  have Cr1 := fun o => (C8.out.alloc o).c1
  have Cq2 := C8.out.c2
  have Cr2 := fun o => (C8.out.alloc o).c2
  go_wp2_with fail
  clear Pq0 Pr0 Pq1 Pr1 Pq2 Pr2 Aq0 Ar0 Aq1 Ar1 Aq2 Ar2 Bq0 Br0 Bq1 Br1 Bq2 Br2 Cq0 Cr0 Cq1 Cr1 Cq2 Cr2
  have eBel3 := Lib.hid (fun o => (below_alloc hid8.out o).drew)
  have eLd3 := Lib.hid (fun o => HL.out.below (eBel3.out o))
  have ePBlk3 := Lib.hid (fun o => (P8.out.alloc o).below (Below.refl _ _).drew)
  have eABlk3 := Lib.hid (fun o => (A8.out.alloc o).below (Below.refl _ _).drew)
  have eBBlk3 := Lib.hid (fun o => (B8.out.alloc o).below (Below.refl _ _).drew)
  have eCBlk3 := Lib.hid (fun o => (C8.out.alloc o).below (Below.refl _ _).drew)
  have eDBlk3 := Lib.hid ((Own3.new w8 (.int .i64 g0) (.int .u64 g1) (.int .u64 g2) 24).below (Below.refl _ _).drew)
  clear hid8 P8 A8 B8 C8
  refine Reg.cut (S := (fun w' => Ld w' ∧ Below w.heap.size w w' ∧ w'.cell? ⟨w.heap.size, 0, none⟩ = some (.int .i64 m) ∧ w'.cell? ⟨w.heap.size, 1, none⟩ = some (.int .u64 f) ∧ w'.cell? ⟨w.heap.size, 2, none⟩ = some (.int .u64 o) ∧ w'.cell? ⟨w5.heap.size, 0, none⟩ = some (.int .i64 t0) ∧ w'.cell? ⟨w5.heap.size, 1, none⟩ = some (.int .u64 t1) ∧ w'.cell? ⟨w5.heap.size, 2, none⟩ = some (.int .u64 t2) ∧ w'.cell? ⟨w6.heap.size, 0, none⟩ = some (.int .i64 t0) ∧ w'.cell? ⟨w6.heap.size, 1, none⟩ = some (.int .u64 t1) ∧ w'.cell? ⟨w6.heap.size, 2, none⟩ = some (.int .u64 t2) ∧ w'.cell? ⟨w7.heap.size, 0, none⟩ = some (.int .i64 g0) ∧ w'.cell? ⟨w7.heap.size, 1, none⟩ = some (.int .u64 g1) ∧ w'.cell? ⟨w7.heap.size, 2, none⟩ = some (.int .u64 g2) ∧ w'.cell? ⟨w8.heap.size, 0, none⟩ = some (.int .i64 g0) ∧ w'.cell? ⟨w8.heap.size, 1, none⟩ = some (.int .u64 g1) ∧ w'.cell? ⟨w8.heap.size, 2, none⟩ = some (.int .u64 g2) ∧ w.heap.size < w'.heap.size ∧ w5.heap.size < w'.heap.size ∧ w6.heap.size < w'.heap.size ∧ w7.heap.size < w'.heap.size ∧ w8.heap.size < w'.heap.size)) (A := ?hA264) ?hreg264 ?hrest264
  case hreg264 =>
    refine wp_region_held_drew (S := (fun w' => Ld w' ∧ Below w.heap.size w w' ∧ w'.cell? ⟨w.heap.size, 0, none⟩ = some (.int .i64 m) ∧ w'.cell? ⟨w.heap.size, 1, none⟩ = some (.int .u64 f) ∧ w'.cell? ⟨w.heap.size, 2, none⟩ = some (.int .u64 o) ∧ w'.cell? ⟨w5.heap.size, 0, none⟩ = some (.int .i64 t0) ∧ w'.cell? ⟨w5.heap.size, 1, none⟩ = some (.int .u64 t1) ∧ w'.cell? ⟨w5.heap.size, 2, none⟩ = some (.int .u64 t2) ∧ w'.cell? ⟨w6.heap.size, 0, none⟩ = some (.int .i64 t0) ∧ w'.cell? ⟨w6.heap.size, 1, none⟩ = some (.int .u64 t1) ∧ w'.cell? ⟨w6.heap.size, 2, none⟩ = some (.int .u64 t2) ∧ w'.cell? ⟨w7.heap.size, 0, none⟩ = some (.int .i64 g0) ∧ w'.cell? ⟨w7.heap.size, 1, none⟩ = some (.int .u64 g1) ∧ w'.cell? ⟨w7.heap.size, 2, none⟩ = some (.int .u64 g2) ∧ w'.cell? ⟨w8.heap.size, 0, none⟩ = some (.int .i64 g0) ∧ w'.cell? ⟨w8.heap.size, 1, none⟩ = some (.int .u64 g1) ∧ w'.cell? ⟨w8.heap.size, 2, none⟩ = some (.int .u64 g2) ∧ w.heap.size < w'.heap.size ∧ w5.heap.size < w'.heap.size ∧ w6.heap.size < w'.heap.size ∧ w7.heap.size < w'.heap.size ∧ w8.heap.size < w'.heap.size)) (by kernel_rfl) (⟨eLd3.out _, eBel3.out _, (ePBlk3.out _).c0, (ePBlk3.out _).c1, (ePBlk3.out _).c2, (eABlk3.out _).c0, (eABlk3.out _).c1, (eABlk3.out _).c2, (eBBlk3.out _).c0, (eBBlk3.out _).c1, (eBBlk3.out _).c2, (eCBlk3.out _).c0, (eCBlk3.out _).c1, (eCBlk3.out _).c2, (eDBlk3.out).c0, (eDBlk3.out).c1, (eDBlk3.out).c2, (ePBlk3.out _).lt, (eABlk3.out _).lt, (eBBlk3.out _).lt, (eCBlk3.out _).lt, (eDBlk3.out).lt⟩) (fun hHeld => ?_)
    refine Reg.take_yes (i := 0) (d := some 102) (v := ?v265) rfl rfl (by kernel_rfl) (by kernel_rfl) (by kernel_rfl) (fun _ _ _ h => by cases h.1) (by rfl) ?y265 hHeld ?r265
    case y265 =>
      intro wS hS
      obtain ⟨sL, sB, s0, s1, s2, s3, s4, s5, s6, s7, s8, s9, s10, s11, s12, s13, s14, z0, z1, z2, z3, z4⟩ := hS
      go_simp
      all_goals with_reducible rfl
    try simp only [Act.put, List.setIfInBounds_toArray, List.set_cons_zero, List.set_cons_succ]
    refine Reg.take_yes (i := 1) (d := some 103) (v := ?v266) rfl rfl (by kernel_rfl) (by kernel_rfl) (by kernel_rfl) (fun _ _ _ h => by cases h.1) (by rfl) ?y266 hHeld ?r266
    case y266 =>
      intro wS hS
      obtain ⟨sL, sB, s0, s1, s2, s3, s4, s5, s6, s7, s8, s9, s10, s11, s12, s13, s14, z0, z1, z2, z3, z4⟩ := hS
      go_simp
      all_goals with_reducible rfl
    try simp only [Act.put, List.setIfInBounds_toArray, List.set_cons_zero, List.set_cons_succ]
    refine Reg.take_yes (i := 2) (d := some 104) (v := ?v267) rfl rfl (by kernel_rfl) (by kernel_rfl) (by kernel_rfl) (fun _ _ _ h => by cases h.1) (by rfl) ?y267 hHeld ?r267
    case y267 =>
      intro wS hS
      go_simp
      all_goals with_reducible rfl
    try simp only [Act.put, List.setIfInBounds_toArray, List.set_cons_zero, List.set_cons_succ]
    refine Reg.take_yes (i := 3) (d := some 105) (v := ?v268) rfl rfl (by kernel_rfl) (by kernel_rfl) (by kernel_rfl) (fun _ _ _ h => by cases h.1) (by rfl) ?y268 hHeld ?r268
    case y268 =>
      intro wS hS
      go_simp
      all_goals with_reducible rfl
    try simp only [Act.put, List.setIfInBounds_toArray, List.set_cons_zero, List.set_cons_succ]
    refine Reg.take_yes (i := 4) (d := some 106) (v := ?v269) rfl rfl (by kernel_rfl) (by kernel_rfl) (by kernel_rfl) (fun _ _ _ h => by cases h.1) (by rfl) ?y269 hHeld ?r269
    case y269 =>
      intro wS hS
      go_simp
      all_goals with_reducible rfl
    try simp only [Act.put, List.setIfInBounds_toArray, List.set_cons_zero, List.set_cons_succ]
    refine Reg.take_yes (i := 5) (d := some 107) (v := ?v270) rfl rfl (by kernel_rfl) (by kernel_rfl) (by kernel_rfl) (fun _ _ _ h => by cases h.1) (by rfl) ?y270 hHeld ?r270
    case y270 =>
      intro wS hS
      go_simp
      all_goals with_reducible rfl
    try simp only [Act.put, List.setIfInBounds_toArray, List.set_cons_zero, List.set_cons_succ]
    refine Reg.take_yes (i := 6) (d := some 108) (v := ?v271) rfl rfl (by kernel_rfl) (by kernel_rfl) (by kernel_rfl) (fun _ _ _ h => by cases h.1) (by rfl) ?y271 hHeld ?r271
    case y271 =>
      intro wS hS
      go_simp
      all_goals with_reducible rfl
    try simp only [Act.put, List.setIfInBounds_toArray, List.set_cons_zero, List.set_cons_succ]
    refine Reg.take_yes (i := 7) (d := some 109) (v := ?v272) rfl rfl (by kernel_rfl) (by kernel_rfl) (by kernel_rfl) (fun _ _ _ h => by cases h.1) (by rfl) ?y272 hHeld ?r272
    case y272 =>
      intro wS hS
      go_simp
      all_goals with_reducible rfl
    try simp only [Act.put, List.setIfInBounds_toArray, List.set_cons_zero, List.set_cons_succ]
    refine Reg.take_yes (i := 8) (d := some 110) (v := ?v273) rfl rfl (by kernel_rfl) (by kernel_rfl) (by kernel_rfl) (fun _ _ _ h => by cases h.1) (by rfl) ?y273 hHeld ?r273
    case y273 =>
      intro wS hS
      go_simp
      all_goals with_reducible rfl
    try simp only [Act.put, List.setIfInBounds_toArray, List.set_cons_zero, List.set_cons_succ]
    refine Reg.take_yes (i := 9) (d := some 111) (v := ?v274) rfl rfl (by kernel_rfl) (by kernel_rfl) (by kernel_rfl) (fun _ _ _ h => by cases h.1) (by rfl) ?y274 hHeld ?r274
    case y274 =>
      intro wS hS
      go_simp
      all_goals with_reducible rfl
    try simp only [Act.put, List.setIfInBounds_toArray, List.set_cons_zero, List.set_cons_succ]
    refine Reg.take_yes (i := 10) (d := some 112) (v := ?v275) rfl rfl (by kernel_rfl) (by kernel_rfl) (by kernel_rfl) (fun _ _ _ h => by cases h.1) (by rfl) ?y275 hHeld ?r275
    case y275 =>
      intro wS hS
      go_simp
      all_goals with_reducible rfl
    try simp only [Act.put, List.setIfInBounds_toArray, List.set_cons_zero, List.set_cons_succ]
    refine Reg.take_yes (i := 11) (d := some 113) (v := ?v276) rfl rfl (by kernel_rfl) (by kernel_rfl) (by kernel_rfl) (fun _ _ _ h => by cases h.1) (by rfl) ?y276 hHeld ?r276
    case y276 =>
      intro wS hS
      go_simp
      all_goals with_reducible rfl
    try simp only [Act.put, List.setIfInBounds_toArray, List.set_cons_zero, List.set_cons_succ]
    refine Reg.take_yes (i := 12) (d := some 114) (v := ?v277) rfl rfl (by kernel_rfl) (by kernel_rfl) (by kernel_rfl) (fun _ _ _ h => by cases h.1) (by rfl) ?y277 hHeld ?r277
    case y277 =>
      intro wS hS
      go_simp
      all_goals with_reducible rfl
    try simp only [Act.put, List.setIfInBounds_toArray, List.set_cons_zero, List.set_cons_succ]
    refine Reg.take_yes (i := 13) (d := some 115) (v := ?v278) rfl rfl (by kernel_rfl) (by kernel_rfl) (by kernel_rfl) (fun _ _ _ h => by cases h.1) (by rfl) ?y278 hHeld ?r278
    case y278 =>
      intro wS hS
      go_simp
      all_goals with_reducible rfl
    try simp only [Act.put, List.setIfInBounds_toArray, List.set_cons_zero, List.set_cons_succ]
    refine Reg.take_yes (i := 14) (d := some 116) (v := ?v279) rfl rfl (by kernel_rfl) (by kernel_rfl) (by kernel_rfl) (fun _ _ _ h => by cases h.1) (by rfl) ?y279 hHeld ?r279
    case y279 =>
      intro wS hS
      go_simp
      all_goals with_reducible rfl
    try simp only [Act.put, List.setIfInBounds_toArray, List.set_cons_zero, List.set_cons_succ]
    refine Reg.take_yes (i := 15) (d := some 117) (v := ?v280) rfl rfl (by kernel_rfl) (by kernel_rfl) (by kernel_rfl) (fun _ _ _ h => by cases h.1) (by rfl) ?y280 hHeld ?r280
    case y280 =>
      intro wS hS
      go_simp
      all_goals with_reducible rfl
    try simp only [Act.put, List.setIfInBounds_toArray, List.set_cons_zero, List.set_cons_succ]
    refine Reg.take_yes (i := 16) (d := some 118) (v := ?v281) rfl rfl (by kernel_rfl) (by kernel_rfl) (by kernel_rfl) (fun _ _ _ h => by cases h.1) (by rfl) ?y281 hHeld ?r281
    case y281 =>
      intro wS hS
      go_simp
      all_goals with_reducible rfl
    try simp only [Act.put, List.setIfInBounds_toArray, List.set_cons_zero, List.set_cons_succ]
    refine Reg.take_yes (i := 17) (d := some 119) (v := ?v282) rfl rfl (by kernel_rfl) (by kernel_rfl) (by kernel_rfl) (fun _ _ _ h => by cases h.1) (by rfl) ?y282 hHeld ?r282
    case y282 =>
      intro wS hS
      go_simp
      all_goals with_reducible rfl
    try simp only [Act.put, List.setIfInBounds_toArray, List.set_cons_zero, List.set_cons_succ]
    refine Reg.take_yes (i := 18) (d := some 120) (v := ?v283) rfl rfl (by kernel_rfl) (by kernel_rfl) (by kernel_rfl) (fun _ _ _ h => by cases h.1) (by rfl) ?y283 hHeld ?r283
    case y283 =>
      intro wS hS
      go_simp
      all_goals with_reducible rfl
    try simp only [Act.put, List.setIfInBounds_toArray, List.set_cons_zero, List.set_cons_succ]
    refine Reg.take_yes (i := 19) (d := some 121) (v := ?v284) rfl rfl (by kernel_rfl) (by kernel_rfl) (by kernel_rfl) (fun _ _ _ h => by cases h.1) (by rfl) ?y284 hHeld ?r284
    case y284 =>
      intro wS hS
      obtain ⟨sL, sB, s0, s1, s2, s3, s4, s5, s6, s7, s8, s9, s10, s11, s12, s13, s14, z0, z1, z2, z3, z4⟩ := hS
      go_simp
      all_goals with_reducible rfl
    try simp only [Act.put, List.setIfInBounds_toArray, List.set_cons_zero, List.set_cons_succ]
    refine Reg.take_yes (i := 20) (d := some 122) (v := ?v285) rfl rfl (by kernel_rfl) (by kernel_rfl) (by kernel_rfl) (fun _ _ _ h => by cases h.1) (by rfl) ?y285 hHeld ?r285
    case y285 =>
      intro wS hS
      obtain ⟨sL, sB, s0, s1, s2, s3, s4, s5, s6, s7, s8, s9, s10, s11, s12, s13, s14, z0, z1, z2, z3, z4⟩ := hS
      go_simp
      all_goals with_reducible rfl
    try simp only [Act.put, List.setIfInBounds_toArray, List.set_cons_zero, List.set_cons_succ]
    refine Reg.take_yes (i := 21) (d := some 123) (v := ?v286) rfl rfl (by kernel_rfl) (by kernel_rfl) (by kernel_rfl) (fun _ _ _ h => by cases h.1) (by rfl) ?y286 hHeld ?r286
    case y286 =>
      intro wS hS
      go_simp
      all_goals with_reducible rfl
    try simp only [Act.put, List.setIfInBounds_toArray, List.set_cons_zero, List.set_cons_succ]
    refine Reg.take_yes (i := 22) (d := some 124) (v := ?v287) rfl rfl (by kernel_rfl) (by kernel_rfl) (by kernel_rfl) (fun _ _ _ h => by cases h.1) (by rfl) ?y287 hHeld ?r287
    case y287 =>
      intro wS hS
      go_simp
      all_goals with_reducible rfl
    try simp only [Act.put, List.setIfInBounds_toArray, List.set_cons_zero, List.set_cons_succ]
    refine Reg.take_yes (i := 23) (d := some 125) (v := ?v288) rfl rfl (by kernel_rfl) (by kernel_rfl) (by kernel_rfl) (fun _ _ _ h => by cases h.1) (by rfl) ?y288 hHeld ?r288
    case y288 =>
      intro wS hS
      go_simp
      all_goals with_reducible rfl
    try simp only [Act.put, List.setIfInBounds_toArray, List.set_cons_zero, List.set_cons_succ]
    refine Reg.take_yes (i := 24) (d := some 126) (v := ?v289) rfl rfl (by kernel_rfl) (by kernel_rfl) (by kernel_rfl) (fun _ _ _ h => by cases h.1) (by rfl) ?y289 hHeld ?r289
    case y289 =>
      intro wS hS
      go_simp
      all_goals with_reducible rfl
    try simp only [Act.put, List.setIfInBounds_toArray, List.set_cons_zero, List.set_cons_succ]
    refine Reg.take_yes (i := 25) (d := some 127) (v := ?v290) rfl rfl (by kernel_rfl) (by kernel_rfl) (by kernel_rfl) (fun _ _ _ h => by cases h.1) (by rfl) ?y290 hHeld ?r290
    case y290 =>
      intro wS hS
      go_simp
      all_goals with_reducible rfl
    try simp only [Act.put, List.setIfInBounds_toArray, List.set_cons_zero, List.set_cons_succ]
    refine Reg.take_yes (i := 26) (d := some 128) (v := ?v291) rfl rfl (by kernel_rfl) (by kernel_rfl) (by kernel_rfl) (fun _ _ _ h => by cases h.1) (by rfl) ?y291 hHeld ?r291
    case y291 =>
      intro wS hS
      go_simp
      all_goals with_reducible rfl
    try simp only [Act.put, List.setIfInBounds_toArray, List.set_cons_zero, List.set_cons_succ]
    refine Reg.take_yes (i := 27) (d := some 129) (v := ?v292) rfl rfl (by kernel_rfl) (by kernel_rfl) (by kernel_rfl) (fun _ _ _ h => by cases h.1) (by rfl) ?y292 hHeld ?r292
    case y292 =>
      intro wS hS
      go_simp
      all_goals with_reducible rfl
    try simp only [Act.put, List.setIfInBounds_toArray, List.set_cons_zero, List.set_cons_succ]
    refine Reg.take_yes (i := 28) (d := some 130) (v := ?v293) rfl rfl (by kernel_rfl) (by kernel_rfl) (by kernel_rfl) (fun _ _ _ h => by cases h.1) (by rfl) ?y293 hHeld ?r293
    case y293 =>
      intro wS hS
      go_simp
      all_goals with_reducible rfl
    try simp only [Act.put, List.setIfInBounds_toArray, List.set_cons_zero, List.set_cons_succ]
    refine Reg.take_yes (i := 29) (d := some 131) (v := ?v294) rfl rfl (by kernel_rfl) (by kernel_rfl) (by kernel_rfl) (fun _ _ _ h => by cases h.1) (by rfl) ?y294 hHeld ?r294
    case y294 =>
      intro wS hS
      obtain ⟨sL, sB, s0, s1, s2, s3, s4, s5, s6, s7, s8, s9, s10, s11, s12, s13, s14, z0, z1, z2, z3, z4⟩ := hS
      go_simp
      all_goals with_reducible rfl
    try simp only [Act.put, List.setIfInBounds_toArray, List.set_cons_zero, List.set_cons_succ]
    refine Reg.take_yes (i := 31) (d := some 133) (v := ?v295) rfl rfl (by kernel_rfl) (by kernel_rfl) (by kernel_rfl) (fun _ _ _ h => by cases h.1) (by rfl) ?y295 hHeld ?r295
    case y295 =>
      intro wS hS
      obtain ⟨sL, sB, s0, s1, s2, s3, s4, s5, s6, s7, s8, s9, s10, s11, s12, s13, s14, z0, z1, z2, z3, z4⟩ := hS
      go_simp
      all_goals with_reducible rfl
    try simp only [Act.put, List.setIfInBounds_toArray, List.set_cons_zero, List.set_cons_succ]
    refine wpAnyH_ready (rs := [30]) (by kernel_rfl) (by simp) ?_
    refine Reg.cons_yes rfl (by rfl) (fun K hK => ?_) ?_
    · go_simp
      have hH := hHeld
      obtain ⟨sL, sB, s0, s1, s2, s3, s4, s5, s6, s7, s8, s9, s10, s11, s12, s13, s14, z0, z1, z2, z3, z4⟩ := hH
      refine Calls.mono (HM.out _ sL) ?_
      rintro e wA ⟨rfl, hb⟩
      refine hK.out _ _ (⟨sL.below hb, below_then sB sB.size hb, cell_later hb s0, cell_later hb s1, cell_later hb s2, cell_later hb s3, cell_later hb s4, cell_later hb s5, cell_later hb s6, cell_later hb s7, cell_later hb s8, cell_later hb s9, cell_later hb s10, cell_later hb s11, cell_later hb s12, cell_later hb s13, cell_later hb s14, Nat.lt_of_lt_of_le z0 hb.size, Nat.lt_of_lt_of_le z1 hb.size, Nat.lt_of_lt_of_le z2 hb.size, Nat.lt_of_lt_of_le z3 hb.size, Nat.lt_of_lt_of_le z4 hb.size⟩) (fun hHeld => ?_)
      clear hK K
      try simp only [Act.put, List.setIfInBounds_toArray, List.set_cons_zero, List.set_cons_succ]
      refine wpAnyH_ready (rs := [32]) (by kernel_rfl) (by simp) ?_
      refine Reg.cons_yes rfl (by rfl) (fun K hK => ?_) ?_
      · go_simp
        have hH := hHeld
        obtain ⟨sL, sB, s0, s1, s2, s3, s4, s5, s6, s7, s8, s9, s10, s11, s12, s13, s14, z0, z1, z2, z3, z4⟩ := hH
        refine Calls.mono (HN.out _ sL) ?_
        rintro e wA ⟨rfl, hb⟩
        refine hK.out _ _ (⟨sL.below hb, below_then sB sB.size hb, cell_later hb s0, cell_later hb s1, cell_later hb s2, cell_later hb s3, cell_later hb s4, cell_later hb s5, cell_later hb s6, cell_later hb s7, cell_later hb s8, cell_later hb s9, cell_later hb s10, cell_later hb s11, cell_later hb s12, cell_later hb s13, cell_later hb s14, Nat.lt_of_lt_of_le z0 hb.size, Nat.lt_of_lt_of_le z1 hb.size, Nat.lt_of_lt_of_le z2 hb.size, Nat.lt_of_lt_of_le z3 hb.size, Nat.lt_of_lt_of_le z4 hb.size⟩) (fun hHeld => ?_)
        clear hK K
        try simp only [Act.put, List.setIfInBounds_toArray, List.set_cons_zero, List.set_cons_succ]
        refine Reg.take_yes (i := 33) (d := some 135) (v := ?v296) rfl rfl (by kernel_rfl) (by kernel_rfl) (by kernel_rfl) (fun _ _ _ h => by cases h.1) (by rfl) ?y296 hHeld ?r296
        case y296 =>
          intro wS hS
          go_simp
          all_goals with_reducible rfl
        try simp only [Act.put, List.setIfInBounds_toArray, List.set_cons_zero, List.set_cons_succ]
        refine Reg.take_yes (i := 34) (d := some 136) (v := ?v297) rfl rfl (by kernel_rfl) (by kernel_rfl) (by kernel_rfl) (fun _ _ _ h => by cases h.1) (by rfl) ?y297 hHeld ?r297
        case y297 =>
          intro wS hS
          go_simp
          all_goals with_reducible rfl
        try simp only [Act.put, List.setIfInBounds_toArray, List.set_cons_zero, List.set_cons_succ]
        refine Reg.take_yes (i := 35) (d := some 6) (v := ?v298) rfl rfl (by kernel_rfl) (by kernel_rfl) (by kernel_rfl) (fun _ _ _ h => by cases h.1) (by rfl) ?y298 hHeld ?r298
        case y298 =>
          intro wS hS
          go_simp
          all_goals with_reducible rfl
        try simp only [Act.put, List.setIfInBounds_toArray, List.set_cons_zero, List.set_cons_succ]
        refine wpAnyH_done (by kernel_rfl) ?_ _
        refine ⟨rfl, ?_, hHeld⟩
        with_reducible rfl
      exact AllReadyH.nil
    exact AllReadyH.nil
  rintro w9 ⟨hL, hB, s0, s1, s2, s3, s4, s5, s6, s7, s8, s9, s10, s11, s12, s13, s14, z0, z1, z2, z3, z4⟩
  have hid9 := Lib.hid hB
  have P9 := Lib.hid (Own3.mk z0 s0 s1 s2)
  have A9 := Lib.hid (Own3.mk z1 s3 s4 s5)
  have B9 := Lib.hid (Own3.mk z2 s6 s7 s8)
  have C9 := Lib.hid (Own3.mk z3 s9 s10 s11)
  have D9 := Lib.hid (Own3.mk z4 s12 s13 s14)
  clear hL hB s0 s1 s2 s3 s4 s5 s6 s7 s8 s9 s10 s11 s12 s13 s14 z0 z1 z2 z3 z4
  clear eBel3 eLd3 ePBlk3 eABlk3 eBBlk3 eCBlk3 eDBlk3
  have Pq0 := P9.out.c0
  have Pq1 := P9.out.c1
  have Pq2 := P9.out.c2
  have Aq0 := A9.out.c0
  have Aq1 := A9.out.c1
  have Aq2 := A9.out.c2
  have Bq0 := B9.out.c0
  have Bq1 := B9.out.c1
  have Bq2 := B9.out.c2
  have Cq0 := C9.out.c0
  have Cq1 := C9.out.c1
  have Cq2 := C9.out.c2
  have Dq0 := D9.out.c0
  have Dq1 := D9.out.c1
  have Dq2 := D9.out.c2
  go_wp2_with fail
  go_ret
  exact ⟨rfl, hid9.out⟩
end
end Go.Proofs.YtjalglcmpnjeoaaDoor.SAsidDoes
