/- PoolDoes, the walk, over the contracts of what it calls. -/
import Derived.Test.YtojklokbdmelhaaDoorRPoolI
import Derived.Test.YtojklokbdmelhaaDoorReg
import Derived.WalkSpells
set_option linter.unusedVariables false
set_option linter.unusedSimpArgs false
namespace Go.Proofs.YtojklokbdmelhaaDoor.SPoolDoes
open Go.RowKit Go.Proofs.YtojklokbdmelhaaDoorW.PrintWords Go.Proofs.YtojklokbdmelhaaDoor.Bits Go.Proofs.YtojklokbdmelhaaDoor.SPoolAll
/-- What a call answers, and that it writes below nothing. -/
def Says (f : Nat) (xs : Array Value) (r : Value) : Prop := ∀ W, Ld W → Calls Tryd.prog f xs W fun e w' => e = .returned r ∧ Below W.heap.size W w'
section
attribute [local go_sem high] eqPool
set_option maxRecDepth 100000 in
set_option maxHeartbeats 4000000 in
theorem walk_no (b m f u : Int) (w : World) (hl : Ld w)
    (hr : Says 9 #[.agg #[.int .u64 b, .int .i64 m, .int .u64 f]] (.bool false))
    (hs : Says 10 #[.agg #[.int .u64 b, .int .i64 m, .int .u64 f]] (.bool false)) :
    Calls Tryd.prog 3 #[.agg #[.int .u64 b, .int .i64 m, .int .u64 f], .int .u64 u] w fun e w' => e = .returned (.bool true) ∧ Below w.heap.size w w' := by
  have HR := Lib.hid hr
  have HS := Lib.hid hs
  clear hr hs
  have HL := Lib.hid hl
  have hid0 := Lib.hid (Below.refl w.heap.size w)
  clear hl
  go_enter Tryd.func3, Tryd.ntmps3
  go_wp2_with fail
  refine (atlaslaw04_awake.calls true _ (HL.out.below (below_alloc hid0.out _)) rfl).mono ?_
  rintro e w1 ⟨rfl, hb⟩
  have hid1 := Lib.hid (below_then (below_alloc hid0.out _) (below_alloc hid0.out _).size hb)
  have P1 := Lib.hid ((Own3.new w (.int .u64 b) (.int .i64 m) (.int .u64 f) 24).below hb)
  clear hb hid0 
  have Pq0 := P1.out.c0
  have Pq1 := P1.out.c1
  have Pq2 := P1.out.c2
  go_wp2_with fail
  clear Pq0 Pq1 Pq2
  have eBel1 := Lib.hid ((hid1.out).drew)
  have eLd1 := Lib.hid (HL.out.below (eBel1.out))
  have ePBlk1 := Lib.hid ((P1.out).below (Below.refl _ _).drew)
  clear hid1 P1
  refine Reg.cut (S := (fun w' => Ld w' ∧ Below w.heap.size w w' ∧ w'.cell? ⟨w.heap.size, 0, none⟩ = some (.int .u64 b) ∧ w'.cell? ⟨w.heap.size, 1, none⟩ = some (.int .i64 m) ∧ w'.cell? ⟨w.heap.size, 2, none⟩ = some (.int .u64 f) ∧ w.heap.size < w'.heap.size)) (A := ?hA1) ?hreg1 ?hrest1
  case hreg1 =>
    refine wp_region_held_drew (S := (fun w' => Ld w' ∧ Below w.heap.size w w' ∧ w'.cell? ⟨w.heap.size, 0, none⟩ = some (.int .u64 b) ∧ w'.cell? ⟨w.heap.size, 1, none⟩ = some (.int .i64 m) ∧ w'.cell? ⟨w.heap.size, 2, none⟩ = some (.int .u64 f) ∧ w.heap.size < w'.heap.size)) (by kernel_rfl) (⟨eLd1.out, eBel1.out, (ePBlk1.out).c0, (ePBlk1.out).c1, (ePBlk1.out).c2, (ePBlk1.out).lt⟩) (fun hHeld => ?_)
    refine Reg.take_yes (i := 0) (d := some 17) (v := ?v2) rfl rfl (by kernel_rfl) (by kernel_rfl) (by kernel_rfl) (fun _ _ _ h => by cases h.1) (by rfl) ?y2 hHeld ?r2
    case y2 =>
      intro wS hS
      obtain ⟨sL, sB, s0, s1, s2, z0⟩ := hS
      go_simp
      all_goals with_reducible rfl
    try simp only [Act.put, List.setIfInBounds_toArray, List.set_cons_zero, List.set_cons_succ]
    refine Reg.take_yes (i := 2) (d := some 19) (v := ?v3) rfl rfl (by kernel_rfl) (by kernel_rfl) (by kernel_rfl) (fun _ _ _ h => by cases h.1) (by rfl) ?y3 hHeld ?r3
    case y3 =>
      intro wS hS
      obtain ⟨sL, sB, s0, s1, s2, z0⟩ := hS
      go_simp
      all_goals with_reducible rfl
    try simp only [Act.put, List.setIfInBounds_toArray, List.set_cons_zero, List.set_cons_succ]
    refine wpAnyH_ready (rs := [1]) (by kernel_rfl) (by simp) ?_
    refine Reg.cons_yes rfl (by rfl) (fun K hK => ?_) ?_
    · go_simp
      have hH := hHeld
      obtain ⟨sL, sB, s0, s1, s2, z0⟩ := hH
      refine Calls.mono (HR.out _ sL) ?_
      rintro e wA ⟨rfl, hb⟩
      refine hK.out _ _ (⟨sL.below hb, below_then sB sB.size hb, cell_later hb s0, cell_later hb s1, cell_later hb s2, Nat.lt_of_lt_of_le z0 hb.size⟩) (fun hHeld => ?_)
      clear hK K
      try simp only [Act.put, List.setIfInBounds_toArray, List.set_cons_zero, List.set_cons_succ]
      refine wpAnyH_ready (rs := [3]) (by kernel_rfl) (by simp) ?_
      refine Reg.cons_yes rfl (by rfl) (fun K hK => ?_) ?_
      · go_simp
        have hH := hHeld
        obtain ⟨sL, sB, s0, s1, s2, z0⟩ := hH
        refine Calls.mono (HS.out _ sL) ?_
        rintro e wA ⟨rfl, hb⟩
        refine hK.out _ _ (⟨sL.below hb, below_then sB sB.size hb, cell_later hb s0, cell_later hb s1, cell_later hb s2, Nat.lt_of_lt_of_le z0 hb.size⟩) (fun hHeld => ?_)
        clear hK K
        try simp only [Act.put, List.setIfInBounds_toArray, List.set_cons_zero, List.set_cons_succ]
        refine Reg.take_yes (i := 4) (d := some 21) (v := ?v4) rfl rfl (by kernel_rfl) (by kernel_rfl) (by kernel_rfl) (fun _ _ _ h => by cases h.1) (by rfl) ?y4 hHeld ?r4
        case y4 =>
          intro wS hS
          go_simp
          all_goals with_reducible rfl
        try simp only [Act.put, List.setIfInBounds_toArray, List.set_cons_zero, List.set_cons_succ]
        refine Reg.take_yes (i := 5) (d := some 22) (v := ?v5) rfl rfl (by kernel_rfl) (by kernel_rfl) (by kernel_rfl) (fun _ _ _ h => by cases h.1) (by rfl) ?y5 hHeld ?r5
        case y5 =>
          intro wS hS
          go_simp
          all_goals with_reducible rfl
        try simp only [Act.put, List.setIfInBounds_toArray, List.set_cons_zero, List.set_cons_succ]
        refine Reg.take_yes (i := 6) (d := some 23) (v := ?v6) rfl rfl (by kernel_rfl) (by kernel_rfl) (by kernel_rfl) (fun _ _ _ h => by cases h.1) (by rfl) ?y6 hHeld ?r6
        case y6 =>
          intro wS hS
          obtain ⟨sL, sB, s0, s1, s2, z0⟩ := hS
          go_simp
          all_goals with_reducible rfl
        try simp only [Act.put, List.setIfInBounds_toArray, List.set_cons_zero, List.set_cons_succ]
        refine wpAnyH_ready (rs := [7]) (by kernel_rfl) (by simp) ?_
        refine Reg.cons_yes rfl (by rfl) (fun K hK => ?_) ?_
        · go_simp
          have hH := hHeld
          obtain ⟨sL, sB, s0, s1, s2, z0⟩ := hH
          refine Calls.mono (HS.out _ sL) ?_
          rintro e wA ⟨rfl, hb⟩
          refine hK.out _ _ (⟨sL.below hb, below_then sB sB.size hb, cell_later hb s0, cell_later hb s1, cell_later hb s2, Nat.lt_of_lt_of_le z0 hb.size⟩) (fun hHeld => ?_)
          clear hK K
          try simp only [Act.put, List.setIfInBounds_toArray, List.set_cons_zero, List.set_cons_succ]
          refine Reg.take_yes (i := 8) (d := some 25) (v := ?v7) rfl rfl (by kernel_rfl) (by kernel_rfl) (by kernel_rfl) (fun _ _ _ h => by cases h.1) (by rfl) ?y7 hHeld ?r7
          case y7 =>
            intro wS hS
            go_simp
            all_goals with_reducible rfl
          try simp only [Act.put, List.setIfInBounds_toArray, List.set_cons_zero, List.set_cons_succ]
          refine Reg.take_yes (i := 9) (d := some 26) (v := ?v8) rfl rfl (by kernel_rfl) (by kernel_rfl) (by kernel_rfl) (fun _ _ _ h => by cases h.1) (by rfl) ?y8 hHeld ?r8
          case y8 =>
            intro wS hS
            go_simp
            all_goals with_reducible rfl
          try simp only [Act.put, List.setIfInBounds_toArray, List.set_cons_zero, List.set_cons_succ]
          refine wpAnyH_done (by kernel_rfl) ?_ _
          refine ⟨rfl, ?_, hHeld⟩
          with_reducible rfl
        exact AllReadyH.nil
      exact AllReadyH.nil
    exact AllReadyH.nil
  rintro w2 ⟨hL, hB, s0, s1, s2, z0⟩
  have hid2 := Lib.hid hB
  have P2 := Lib.hid (Own3.mk z0 s0 s1 s2)
  clear hL hB s0 s1 s2 z0
  clear eBel1 eLd1 ePBlk1
  have Pq0 := P2.out.c0
  have Pq1 := P2.out.c1
  have Pq2 := P2.out.c2
  go_wp2_with fail
  clear Pq0 Pq1 Pq2
  have eBel2 := Lib.hid ((hid2.out).drew)
  have eLd2 := Lib.hid (HL.out.below (eBel2.out))
  have ePBlk2 := Lib.hid ((P2.out).below (Below.refl _ _).drew)
  clear hid2 P2
  refine Reg.cut (S := (fun w' => Ld w' ∧ Below w.heap.size w w' ∧ w'.cell? ⟨w.heap.size, 0, none⟩ = some (.int .u64 b) ∧ w'.cell? ⟨w.heap.size, 1, none⟩ = some (.int .i64 m) ∧ w'.cell? ⟨w.heap.size, 2, none⟩ = some (.int .u64 f) ∧ w.heap.size < w'.heap.size)) (A := ?hA9) ?hreg9 ?hrest9
  case hreg9 =>
    refine wp_region_held_drew (S := (fun w' => Ld w' ∧ Below w.heap.size w w' ∧ w'.cell? ⟨w.heap.size, 0, none⟩ = some (.int .u64 b) ∧ w'.cell? ⟨w.heap.size, 1, none⟩ = some (.int .i64 m) ∧ w'.cell? ⟨w.heap.size, 2, none⟩ = some (.int .u64 f) ∧ w.heap.size < w'.heap.size)) (by kernel_rfl) (⟨eLd2.out, eBel2.out, (ePBlk2.out).c0, (ePBlk2.out).c1, (ePBlk2.out).c2, (ePBlk2.out).lt⟩) (fun hHeld => ?_)
    refine Reg.take_yes (i := 0) (d := some 27) (v := ?v10) rfl rfl (by kernel_rfl) (by kernel_rfl) (by kernel_rfl) (fun _ _ _ h => by cases h.1) (by rfl) ?y10 hHeld ?r10
    case y10 =>
      intro wS hS
      obtain ⟨sL, sB, s0, s1, s2, z0⟩ := hS
      go_simp
      all_goals with_reducible rfl
    try simp only [Act.put, List.setIfInBounds_toArray, List.set_cons_zero, List.set_cons_succ]
    refine Reg.take_yes (i := 2) (d := some 29) (v := ?v11) rfl rfl (by kernel_rfl) (by kernel_rfl) (by kernel_rfl) (fun _ _ _ h => by cases h.1) (by rfl) ?y11 hHeld ?r11
    case y11 =>
      intro wS hS
      obtain ⟨sL, sB, s0, s1, s2, z0⟩ := hS
      go_simp
      all_goals with_reducible rfl
    try simp only [Act.put, List.setIfInBounds_toArray, List.set_cons_zero, List.set_cons_succ]
    refine wpAnyH_ready (rs := [1]) (by kernel_rfl) (by simp) ?_
    refine Reg.cons_yes rfl (by rfl) (fun K hK => ?_) ?_
    · go_simp
      have hH := hHeld
      obtain ⟨sL, sB, s0, s1, s2, z0⟩ := hH
      refine Calls.mono (HR.out _ sL) ?_
      rintro e wA ⟨rfl, hb⟩
      refine hK.out _ _ (⟨sL.below hb, below_then sB sB.size hb, cell_later hb s0, cell_later hb s1, cell_later hb s2, Nat.lt_of_lt_of_le z0 hb.size⟩) (fun hHeld => ?_)
      clear hK K
      try simp only [Act.put, List.setIfInBounds_toArray, List.set_cons_zero, List.set_cons_succ]
      refine wpAnyH_ready (rs := [3]) (by kernel_rfl) (by simp) ?_
      refine Reg.cons_yes rfl (by rfl) (fun K hK => ?_) ?_
      · go_simp
        have hH := hHeld
        obtain ⟨sL, sB, s0, s1, s2, z0⟩ := hH
        refine Calls.mono (HS.out _ sL) ?_
        rintro e wA ⟨rfl, hb⟩
        refine hK.out _ _ (⟨sL.below hb, below_then sB sB.size hb, cell_later hb s0, cell_later hb s1, cell_later hb s2, Nat.lt_of_lt_of_le z0 hb.size⟩) (fun hHeld => ?_)
        clear hK K
        try simp only [Act.put, List.setIfInBounds_toArray, List.set_cons_zero, List.set_cons_succ]
        refine Reg.take_yes (i := 4) (d := some 31) (v := ?v12) rfl rfl (by kernel_rfl) (by kernel_rfl) (by kernel_rfl) (fun _ _ _ h => by cases h.1) (by rfl) ?y12 hHeld ?r12
        case y12 =>
          intro wS hS
          go_simp
          all_goals with_reducible rfl
        try simp only [Act.put, List.setIfInBounds_toArray, List.set_cons_zero, List.set_cons_succ]
        refine Reg.take_yes (i := 5) (d := some 4) (v := ?v13) rfl rfl (by kernel_rfl) (by kernel_rfl) (by kernel_rfl) (fun _ _ _ h => by cases h.1) (by rfl) ?y13 hHeld ?r13
        case y13 =>
          intro wS hS
          go_simp
          all_goals with_reducible rfl
        try simp only [Act.put, List.setIfInBounds_toArray, List.set_cons_zero, List.set_cons_succ]
        refine wpAnyH_done (by kernel_rfl) ?_ _
        refine ⟨rfl, ?_, hHeld⟩
        with_reducible rfl
      exact AllReadyH.nil
    exact AllReadyH.nil
  rintro w3 ⟨hL, hB, s0, s1, s2, z0⟩
  have hid3 := Lib.hid hB
  have P3 := Lib.hid (Own3.mk z0 s0 s1 s2)
  clear hL hB s0 s1 s2 z0
  clear eBel2 eLd2 ePBlk2
  have Pq0 := P3.out.c0
  have Pq1 := P3.out.c1
  have Pq2 := P3.out.c2
  go_wp2_with fail
  go_ret
  exact ⟨rfl, hid3.out⟩
set_option maxRecDepth 100000 in
set_option maxHeartbeats 4000000 in
theorem walk_yes (b m f u f1 x er f2 g c : Int) (z : Bool) (w : World) (hl : Ld w)
    (hr : Says 9 #[.agg #[.int .u64 b, .int .i64 m, .int .u64 f]] (.bool true))
    (hs : Says 10 #[.agg #[.int .u64 b, .int .i64 m, .int .u64 f]] (.bool true))
    (ht : Says 11 #[.agg #[.int .u64 b, .int .i64 m, .int .u64 f]] (.tuple #[.agg #[.int .u64 b, .int .i64 m, .int .u64 f1], .int .u64 x, .int .i64 er]))
    (hu : Says 12 #[.agg #[.int .u64 b, .int .i64 m, .int .u64 f]] (.tuple #[.agg #[.int .u64 b, .int .i64 m, .int .u64 f1], .int .u64 x, .int .i64 er]))
    (hg : Says 13 #[.agg #[.int .u64 b, .int .i64 m, .int .u64 f], .int .u64 u] (.tuple #[.agg #[.int .u64 b, .int .i64 m, .int .u64 f2], .int .i64 g]))
    (hh : Says 14 #[.agg #[.int .u64 b, .int .i64 m, .int .u64 f], .int .u64 u] (.tuple #[.agg #[.int .u64 b, .int .i64 m, .int .u64 f2], .int .i64 g]))
    (hm : Says 15 #[.agg #[.int .u64 b, .int .i64 m, .int .u64 f]] (.int .i64 c))
    (hn : Says 16 #[.agg #[.int .u64 b, .int .i64 m, .int .u64 f]] (.int .i64 c))
    (hi : Says 17 #[.agg #[.int .u64 b, .int .i64 m, .int .u64 f], .int .u64 u] (.bool z))
    (hj : Says 18 #[.agg #[.int .u64 b, .int .i64 m, .int .u64 f], .int .u64 u] (.bool z)) :
    Calls Tryd.prog 3 #[.agg #[.int .u64 b, .int .i64 m, .int .u64 f], .int .u64 u] w fun e w' => e = .returned (.bool true) ∧ Below w.heap.size w w' := by
  have HR := Lib.hid hr
  have HS := Lib.hid hs
  have HT := Lib.hid ht
  have HU := Lib.hid hu
  have HG := Lib.hid hg
  have HH := Lib.hid hh
  have HM := Lib.hid hm
  have HN := Lib.hid hn
  have HI := Lib.hid hi
  have HJ := Lib.hid hj
  clear hr hs ht hu hg hh hm hn hi hj
  have HL := Lib.hid hl
  have hid0 := Lib.hid (Below.refl w.heap.size w)
  clear hl
  go_enter Tryd.func3, Tryd.ntmps3
  go_wp2_with fail
  refine (atlaslaw04_awake.calls true _ (HL.out.below (below_alloc hid0.out _)) rfl).mono ?_
  rintro e w1 ⟨rfl, hb⟩
  have hid1 := Lib.hid (below_then (below_alloc hid0.out _) (below_alloc hid0.out _).size hb)
  have P1 := Lib.hid ((Own3.new w (.int .u64 b) (.int .i64 m) (.int .u64 f) 24).below hb)
  clear hb hid0 
  have Pq0 := P1.out.c0
  have Pq1 := P1.out.c1
  have Pq2 := P1.out.c2
  go_wp2_with fail
  clear Pq0 Pq1 Pq2
  have eBel1 := Lib.hid ((hid1.out).drew)
  have eLd1 := Lib.hid (HL.out.below (eBel1.out))
  have ePBlk1 := Lib.hid ((P1.out).below (Below.refl _ _).drew)
  clear hid1 P1
  refine Reg.cut (S := (fun w' => Ld w' ∧ Below w.heap.size w w' ∧ w'.cell? ⟨w.heap.size, 0, none⟩ = some (.int .u64 b) ∧ w'.cell? ⟨w.heap.size, 1, none⟩ = some (.int .i64 m) ∧ w'.cell? ⟨w.heap.size, 2, none⟩ = some (.int .u64 f) ∧ w.heap.size < w'.heap.size)) (A := ?hA14) ?hreg14 ?hrest14
  case hreg14 =>
    refine wp_region_held_drew (S := (fun w' => Ld w' ∧ Below w.heap.size w w' ∧ w'.cell? ⟨w.heap.size, 0, none⟩ = some (.int .u64 b) ∧ w'.cell? ⟨w.heap.size, 1, none⟩ = some (.int .i64 m) ∧ w'.cell? ⟨w.heap.size, 2, none⟩ = some (.int .u64 f) ∧ w.heap.size < w'.heap.size)) (by kernel_rfl) (⟨eLd1.out, eBel1.out, (ePBlk1.out).c0, (ePBlk1.out).c1, (ePBlk1.out).c2, (ePBlk1.out).lt⟩) (fun hHeld => ?_)
    refine Reg.take_yes (i := 0) (d := some 17) (v := ?v15) rfl rfl (by kernel_rfl) (by kernel_rfl) (by kernel_rfl) (fun _ _ _ h => by cases h.1) (by rfl) ?y15 hHeld ?r15
    case y15 =>
      intro wS hS
      obtain ⟨sL, sB, s0, s1, s2, z0⟩ := hS
      go_simp
      all_goals with_reducible rfl
    try simp only [Act.put, List.setIfInBounds_toArray, List.set_cons_zero, List.set_cons_succ]
    refine Reg.take_yes (i := 2) (d := some 19) (v := ?v16) rfl rfl (by kernel_rfl) (by kernel_rfl) (by kernel_rfl) (fun _ _ _ h => by cases h.1) (by rfl) ?y16 hHeld ?r16
    case y16 =>
      intro wS hS
      obtain ⟨sL, sB, s0, s1, s2, z0⟩ := hS
      go_simp
      all_goals with_reducible rfl
    try simp only [Act.put, List.setIfInBounds_toArray, List.set_cons_zero, List.set_cons_succ]
    refine wpAnyH_ready (rs := [1]) (by kernel_rfl) (by simp) ?_
    refine Reg.cons_yes rfl (by rfl) (fun K hK => ?_) ?_
    · go_simp
      have hH := hHeld
      obtain ⟨sL, sB, s0, s1, s2, z0⟩ := hH
      refine Calls.mono (HR.out _ sL) ?_
      rintro e wA ⟨rfl, hb⟩
      refine hK.out _ _ (⟨sL.below hb, below_then sB sB.size hb, cell_later hb s0, cell_later hb s1, cell_later hb s2, Nat.lt_of_lt_of_le z0 hb.size⟩) (fun hHeld => ?_)
      clear hK K
      try simp only [Act.put, List.setIfInBounds_toArray, List.set_cons_zero, List.set_cons_succ]
      refine wpAnyH_ready (rs := [3]) (by kernel_rfl) (by simp) ?_
      refine Reg.cons_yes rfl (by rfl) (fun K hK => ?_) ?_
      · go_simp
        have hH := hHeld
        obtain ⟨sL, sB, s0, s1, s2, z0⟩ := hH
        refine Calls.mono (HS.out _ sL) ?_
        rintro e wA ⟨rfl, hb⟩
        refine hK.out _ _ (⟨sL.below hb, below_then sB sB.size hb, cell_later hb s0, cell_later hb s1, cell_later hb s2, Nat.lt_of_lt_of_le z0 hb.size⟩) (fun hHeld => ?_)
        clear hK K
        try simp only [Act.put, List.setIfInBounds_toArray, List.set_cons_zero, List.set_cons_succ]
        refine Reg.take_yes (i := 4) (d := some 21) (v := ?v17) rfl rfl (by kernel_rfl) (by kernel_rfl) (by kernel_rfl) (fun _ _ _ h => by cases h.1) (by rfl) ?y17 hHeld ?r17
        case y17 =>
          intro wS hS
          go_simp
          all_goals with_reducible rfl
        try simp only [Act.put, List.setIfInBounds_toArray, List.set_cons_zero, List.set_cons_succ]
        refine Reg.take_yes (i := 5) (d := some 22) (v := ?v18) rfl rfl (by kernel_rfl) (by kernel_rfl) (by kernel_rfl) (fun _ _ _ h => by cases h.1) (by rfl) ?y18 hHeld ?r18
        case y18 =>
          intro wS hS
          go_simp
          all_goals with_reducible rfl
        try simp only [Act.put, List.setIfInBounds_toArray, List.set_cons_zero, List.set_cons_succ]
        refine Reg.take_yes (i := 6) (d := some 23) (v := ?v19) rfl rfl (by kernel_rfl) (by kernel_rfl) (by kernel_rfl) (fun _ _ _ h => by cases h.1) (by rfl) ?y19 hHeld ?r19
        case y19 =>
          intro wS hS
          obtain ⟨sL, sB, s0, s1, s2, z0⟩ := hS
          go_simp
          all_goals with_reducible rfl
        try simp only [Act.put, List.setIfInBounds_toArray, List.set_cons_zero, List.set_cons_succ]
        refine wpAnyH_ready (rs := [7]) (by kernel_rfl) (by simp) ?_
        refine Reg.cons_yes rfl (by rfl) (fun K hK => ?_) ?_
        · go_simp
          have hH := hHeld
          obtain ⟨sL, sB, s0, s1, s2, z0⟩ := hH
          refine Calls.mono (HS.out _ sL) ?_
          rintro e wA ⟨rfl, hb⟩
          refine hK.out _ _ (⟨sL.below hb, below_then sB sB.size hb, cell_later hb s0, cell_later hb s1, cell_later hb s2, Nat.lt_of_lt_of_le z0 hb.size⟩) (fun hHeld => ?_)
          clear hK K
          try simp only [Act.put, List.setIfInBounds_toArray, List.set_cons_zero, List.set_cons_succ]
          refine Reg.take_yes (i := 8) (d := some 25) (v := ?v20) rfl rfl (by kernel_rfl) (by kernel_rfl) (by kernel_rfl) (fun _ _ _ h => by cases h.1) (by rfl) ?y20 hHeld ?r20
          case y20 =>
            intro wS hS
            go_simp
            all_goals with_reducible rfl
          try simp only [Act.put, List.setIfInBounds_toArray, List.set_cons_zero, List.set_cons_succ]
          refine Reg.take_yes (i := 9) (d := some 26) (v := ?v21) rfl rfl (by kernel_rfl) (by kernel_rfl) (by kernel_rfl) (fun _ _ _ h => by cases h.1) (by rfl) ?y21 hHeld ?r21
          case y21 =>
            intro wS hS
            go_simp
            all_goals with_reducible rfl
          try simp only [Act.put, List.setIfInBounds_toArray, List.set_cons_zero, List.set_cons_succ]
          refine wpAnyH_done (by kernel_rfl) ?_ _
          refine ⟨rfl, ?_, hHeld⟩
          with_reducible rfl
        exact AllReadyH.nil
      exact AllReadyH.nil
    exact AllReadyH.nil
  rintro w2 ⟨hL, hB, s0, s1, s2, z0⟩
  have hid2 := Lib.hid hB
  have P2 := Lib.hid (Own3.mk z0 s0 s1 s2)
  clear hL hB s0 s1 s2 z0
  clear eBel1 eLd1 ePBlk1
  have Pq0 := P2.out.c0
  have Pq1 := P2.out.c1
  have Pq2 := P2.out.c2
  go_wp2_with fail
  clear Pq0 Pq1 Pq2
  refine (HT.out _ (HL.out.below hid2.out)).mono ?_
  rintro e w3 ⟨rfl, hb⟩
  have hid3 := Lib.hid (below_then hid2.out hid2.out.size hb)
  have P3 := Lib.hid (P2.out.below hb)
  clear hb hid2 P2
  have Pq0 := P3.out.c0
  have Pr0 := fun o => (P3.out.alloc o).c0
  have Pq1 := P3.out.c1
  have Pr1 := fun o => (P3.out.alloc o).c1
  have Pq2 := P3.out.c2
  have Pr2 := fun o => (P3.out.alloc o).c2
  go_wp2_with fail
  clear Pq0 Pr0 Pq1 Pr1 Pq2 Pr2
  refine (HU.out _ (HL.out.below (below_alloc hid3.out _))).mono ?_
  rintro e w4 ⟨rfl, hb⟩
  have hid4 := Lib.hid (below_then (below_alloc hid3.out _) (below_alloc hid3.out _).size hb)
  have P4 := Lib.hid ((P3.out.alloc _).below hb)
  have A4 := Lib.hid ((Own3.new w3 (.int .u64 b) (.int .i64 m) (.int .u64 f1) 24).below hb)
  clear hb hid3 P3
  have Pq0 := P4.out.c0
  have Pr0 := fun o => (P4.out.alloc o).c0
  have Pq1 := P4.out.c1
  have Pr1 := fun o => (P4.out.alloc o).c1
  have Pq2 := P4.out.c2
  have Pr2 := fun o => (P4.out.alloc o).c2
  have Aq0 := A4.out.c0
  have Ar0 := fun o => (A4.out.alloc o).c0
  have Aq1 := A4.out.c1
  have Ar1 := fun o => (A4.out.alloc o).c1
  have Aq2 := A4.out.c2
  have Ar2 := fun o => (A4.out.alloc o).c2
  go_wp2_with fail
  clear Pq0 Pr0 Pq1 Pr1 Pq2 Pr2 Aq0 Ar0 Aq1 Ar1 Aq2 Ar2
  refine (HG.out _ (HL.out.below (below_alloc hid4.out _))).mono ?_
  rintro e w5 ⟨rfl, hb⟩
  have hid5 := Lib.hid (below_then (below_alloc hid4.out _) (below_alloc hid4.out _).size hb)
  have P5 := Lib.hid ((P4.out.alloc _).below hb)
  have A5 := Lib.hid ((A4.out.alloc _).below hb)
  have B5 := Lib.hid ((Own3.new w4 (.int .u64 b) (.int .i64 m) (.int .u64 f1) 24).below hb)
  clear hb hid4 P4 A4
  have Pq0 := P5.out.c0
  have Pr0 := fun o => (P5.out.alloc o).c0
  have Pq1 := P5.out.c1
  have Pr1 := fun o => (P5.out.alloc o).c1
  have Pq2 := P5.out.c2
  have Pr2 := fun o => (P5.out.alloc o).c2
  have Aq0 := A5.out.c0
  have Ar0 := fun o => (A5.out.alloc o).c0
  have Aq1 := A5.out.c1
  have Ar1 := fun o => (A5.out.alloc o).c1
  have Aq2 := A5.out.c2
  have Ar2 := fun o => (A5.out.alloc o).c2
  have Bq0 := B5.out.c0
  have Br0 := fun o => (B5.out.alloc o).c0
  have Bq1 := B5.out.c1
  have Br1 := fun o => (B5.out.alloc o).c1
  have Bq2 := B5.out.c2
  have Br2 := fun o => (B5.out.alloc o).c2
  go_wp2_with fail
  clear Pq0 Pr0 Pq1 Pr1 Pq2 Pr2 Aq0 Ar0 Aq1 Ar1 Aq2 Ar2 Bq0 Br0 Bq1 Br1 Bq2 Br2
  refine (HH.out _ (HL.out.below (below_alloc hid5.out _))).mono ?_
  rintro e w6 ⟨rfl, hb⟩
  have hid6 := Lib.hid (below_then (below_alloc hid5.out _) (below_alloc hid5.out _).size hb)
  have P6 := Lib.hid ((P5.out.alloc _).below hb)
  have A6 := Lib.hid ((A5.out.alloc _).below hb)
  have B6 := Lib.hid ((B5.out.alloc _).below hb)
  have C6 := Lib.hid ((Own3.new w5 (.int .u64 b) (.int .i64 m) (.int .u64 f2) 24).below hb)
  clear hb hid5 P5 A5 B5
  have Pq0 := P6.out.c0
  have Pr0 := fun o => (P6.out.alloc o).c0
  have Pq1 := P6.out.c1
  have Pr1 := fun o => (P6.out.alloc o).c1
  have Pq2 := P6.out.c2
  have Pr2 := fun o => (P6.out.alloc o).c2
  have Aq0 := A6.out.c0
  have Ar0 := fun o => (A6.out.alloc o).c0
  have Aq1 := A6.out.c1
  have Ar1 := fun o => (A6.out.alloc o).c1
  have Aq2 := A6.out.c2
  have Ar2 := fun o => (A6.out.alloc o).c2
  have Bq0 := B6.out.c0
  have Br0 := fun o => (B6.out.alloc o).c0
  have Bq1 := B6.out.c1
  have Br1 := fun o => (B6.out.alloc o).c1
  have Bq2 := B6.out.c2
  have Br2 := fun o => (B6.out.alloc o).c2
  have Cq0 := C6.out.c0
  have Cr0 := fun o => (C6.out.alloc o).c0
  have Cq1 := C6.out.c1
  have Cr1 := fun o => (C6.out.alloc o).c1
  have Cq2 := C6.out.c2
  have Cr2 := fun o => (C6.out.alloc o).c2
  go_wp2_with fail
  clear Pq0 Pr0 Pq1 Pr1 Pq2 Pr2 Aq0 Ar0 Aq1 Ar1 Aq2 Ar2 Bq0 Br0 Bq1 Br1 Bq2 Br2 Cq0 Cr0 Cq1 Cr1 Cq2 Cr2
  have eBel2 := Lib.hid (fun o => (below_alloc hid6.out o).drew)
  have eLd2 := Lib.hid (fun o => HL.out.below (eBel2.out o))
  have ePBlk2 := Lib.hid (fun o => (P6.out.alloc o).below (Below.refl _ _).drew)
  have eABlk2 := Lib.hid (fun o => (A6.out.alloc o).below (Below.refl _ _).drew)
  have eBBlk2 := Lib.hid (fun o => (B6.out.alloc o).below (Below.refl _ _).drew)
  have eCBlk2 := Lib.hid (fun o => (C6.out.alloc o).below (Below.refl _ _).drew)
  have eDBlk2 := Lib.hid ((Own3.new w6 (.int .u64 b) (.int .i64 m) (.int .u64 f2) 24).below (Below.refl _ _).drew)
  clear hid6 P6 A6 B6 C6
  refine Reg.cut (S := (fun w' => Ld w' ∧ Below w.heap.size w w' ∧ w'.cell? ⟨w.heap.size, 0, none⟩ = some (.int .u64 b) ∧ w'.cell? ⟨w.heap.size, 1, none⟩ = some (.int .i64 m) ∧ w'.cell? ⟨w.heap.size, 2, none⟩ = some (.int .u64 f) ∧ w'.cell? ⟨w3.heap.size, 0, none⟩ = some (.int .u64 b) ∧ w'.cell? ⟨w3.heap.size, 1, none⟩ = some (.int .i64 m) ∧ w'.cell? ⟨w3.heap.size, 2, none⟩ = some (.int .u64 f1) ∧ w'.cell? ⟨w4.heap.size, 0, none⟩ = some (.int .u64 b) ∧ w'.cell? ⟨w4.heap.size, 1, none⟩ = some (.int .i64 m) ∧ w'.cell? ⟨w4.heap.size, 2, none⟩ = some (.int .u64 f1) ∧ w'.cell? ⟨w5.heap.size, 0, none⟩ = some (.int .u64 b) ∧ w'.cell? ⟨w5.heap.size, 1, none⟩ = some (.int .i64 m) ∧ w'.cell? ⟨w5.heap.size, 2, none⟩ = some (.int .u64 f2) ∧ w'.cell? ⟨w6.heap.size, 0, none⟩ = some (.int .u64 b) ∧ w'.cell? ⟨w6.heap.size, 1, none⟩ = some (.int .i64 m) ∧ w'.cell? ⟨w6.heap.size, 2, none⟩ = some (.int .u64 f2) ∧ w.heap.size < w'.heap.size ∧ w3.heap.size < w'.heap.size ∧ w4.heap.size < w'.heap.size ∧ w5.heap.size < w'.heap.size ∧ w6.heap.size < w'.heap.size)) (A := ?hA22) ?hreg22 ?hrest22
  case hreg22 =>
    refine wp_region_held_drew (S := (fun w' => Ld w' ∧ Below w.heap.size w w' ∧ w'.cell? ⟨w.heap.size, 0, none⟩ = some (.int .u64 b) ∧ w'.cell? ⟨w.heap.size, 1, none⟩ = some (.int .i64 m) ∧ w'.cell? ⟨w.heap.size, 2, none⟩ = some (.int .u64 f) ∧ w'.cell? ⟨w3.heap.size, 0, none⟩ = some (.int .u64 b) ∧ w'.cell? ⟨w3.heap.size, 1, none⟩ = some (.int .i64 m) ∧ w'.cell? ⟨w3.heap.size, 2, none⟩ = some (.int .u64 f1) ∧ w'.cell? ⟨w4.heap.size, 0, none⟩ = some (.int .u64 b) ∧ w'.cell? ⟨w4.heap.size, 1, none⟩ = some (.int .i64 m) ∧ w'.cell? ⟨w4.heap.size, 2, none⟩ = some (.int .u64 f1) ∧ w'.cell? ⟨w5.heap.size, 0, none⟩ = some (.int .u64 b) ∧ w'.cell? ⟨w5.heap.size, 1, none⟩ = some (.int .i64 m) ∧ w'.cell? ⟨w5.heap.size, 2, none⟩ = some (.int .u64 f2) ∧ w'.cell? ⟨w6.heap.size, 0, none⟩ = some (.int .u64 b) ∧ w'.cell? ⟨w6.heap.size, 1, none⟩ = some (.int .i64 m) ∧ w'.cell? ⟨w6.heap.size, 2, none⟩ = some (.int .u64 f2) ∧ w.heap.size < w'.heap.size ∧ w3.heap.size < w'.heap.size ∧ w4.heap.size < w'.heap.size ∧ w5.heap.size < w'.heap.size ∧ w6.heap.size < w'.heap.size)) (by kernel_rfl) (⟨eLd2.out _, eBel2.out _, (ePBlk2.out _).c0, (ePBlk2.out _).c1, (ePBlk2.out _).c2, (eABlk2.out _).c0, (eABlk2.out _).c1, (eABlk2.out _).c2, (eBBlk2.out _).c0, (eBBlk2.out _).c1, (eBBlk2.out _).c2, (eCBlk2.out _).c0, (eCBlk2.out _).c1, (eCBlk2.out _).c2, (eDBlk2.out).c0, (eDBlk2.out).c1, (eDBlk2.out).c2, (ePBlk2.out _).lt, (eABlk2.out _).lt, (eBBlk2.out _).lt, (eCBlk2.out _).lt, (eDBlk2.out).lt⟩) (fun hHeld => ?_)
    refine Reg.take_yes (i := 0) (d := some 56) (v := ?v23) rfl rfl (by kernel_rfl) (by kernel_rfl) (by kernel_rfl) (fun _ _ _ h => by cases h.1) (by rfl) ?y23 hHeld ?r23
    case y23 =>
      intro wS hS
      obtain ⟨sL, sB, s0, s1, s2, s3, s4, s5, s6, s7, s8, s9, s10, s11, s12, s13, s14, z0, z1, z2, z3, z4⟩ := hS
      go_simp
      all_goals with_reducible rfl
    try simp only [Act.put, List.setIfInBounds_toArray, List.set_cons_zero, List.set_cons_succ]
    refine Reg.take_yes (i := 1) (d := some 57) (v := ?v24) rfl rfl (by kernel_rfl) (by kernel_rfl) (by kernel_rfl) (fun _ _ _ h => by cases h.1) (by rfl) ?y24 hHeld ?r24
    case y24 =>
      intro wS hS
      obtain ⟨sL, sB, s0, s1, s2, s3, s4, s5, s6, s7, s8, s9, s10, s11, s12, s13, s14, z0, z1, z2, z3, z4⟩ := hS
      go_simp
      all_goals with_reducible rfl
    try simp only [Act.put, List.setIfInBounds_toArray, List.set_cons_zero, List.set_cons_succ]
    refine Reg.take_yes (i := 2) (d := some 58) (v := ?v25) rfl rfl (by kernel_rfl) (by kernel_rfl) (by kernel_rfl) (fun _ _ _ h => by cases h.1) (by rfl) ?y25 hHeld ?r25
    case y25 =>
      intro wS hS
      go_simp
      all_goals with_reducible rfl
    try simp only [Act.put, List.setIfInBounds_toArray, List.set_cons_zero, List.set_cons_succ]
    refine Reg.take_yes (i := 3) (d := some 59) (v := ?v26) rfl rfl (by kernel_rfl) (by kernel_rfl) (by kernel_rfl) (fun _ _ _ h => by cases h.1) (by rfl) ?y26 hHeld ?r26
    case y26 =>
      intro wS hS
      go_simp
      all_goals with_reducible rfl
    try simp only [Act.put, List.setIfInBounds_toArray, List.set_cons_zero, List.set_cons_succ]
    refine Reg.take_yes (i := 4) (d := some 60) (v := ?v27) rfl rfl (by kernel_rfl) (by kernel_rfl) (by kernel_rfl) (fun _ _ _ h => by cases h.1) (by rfl) ?y27 hHeld ?r27
    case y27 =>
      intro wS hS
      go_simp
      all_goals with_reducible rfl
    try simp only [Act.put, List.setIfInBounds_toArray, List.set_cons_zero, List.set_cons_succ]
    refine Reg.take_yes (i := 5) (d := some 61) (v := ?v28) rfl rfl (by kernel_rfl) (by kernel_rfl) (by kernel_rfl) (fun _ _ _ h => by cases h.1) (by rfl) ?y28 hHeld ?r28
    case y28 =>
      intro wS hS
      go_simp
      all_goals with_reducible rfl
    try simp only [Act.put, List.setIfInBounds_toArray, List.set_cons_zero, List.set_cons_succ]
    refine Reg.take_yes (i := 6) (d := some 62) (v := ?v29) rfl rfl (by kernel_rfl) (by kernel_rfl) (by kernel_rfl) (fun _ _ _ h => by cases h.1) (by rfl) ?y29 hHeld ?r29
    case y29 =>
      intro wS hS
      go_simp
      all_goals with_reducible rfl
    try simp only [Act.put, List.setIfInBounds_toArray, List.set_cons_zero, List.set_cons_succ]
    refine Reg.take_yes (i := 7) (d := some 63) (v := ?v30) rfl rfl (by kernel_rfl) (by kernel_rfl) (by kernel_rfl) (fun _ _ _ h => by cases h.1) (by rfl) ?y30 hHeld ?r30
    case y30 =>
      intro wS hS
      go_simp
      all_goals with_reducible rfl
    try simp only [Act.put, List.setIfInBounds_toArray, List.set_cons_zero, List.set_cons_succ]
    refine Reg.take_yes (i := 8) (d := some 64) (v := ?v31) rfl rfl (by kernel_rfl) (by kernel_rfl) (by kernel_rfl) (fun _ _ _ h => by cases h.1) (by rfl) ?y31 hHeld ?r31
    case y31 =>
      intro wS hS
      go_simp
      all_goals with_reducible rfl
    try simp only [Act.put, List.setIfInBounds_toArray, List.set_cons_zero, List.set_cons_succ]
    refine Reg.take_yes (i := 9) (d := some 65) (v := ?v32) rfl rfl (by kernel_rfl) (by kernel_rfl) (by kernel_rfl) (fun _ _ _ h => by cases h.1) (by rfl) ?y32 hHeld ?r32
    case y32 =>
      intro wS hS
      go_simp
      all_goals with_reducible rfl
    try simp only [Act.put, List.setIfInBounds_toArray, List.set_cons_zero, List.set_cons_succ]
    refine Reg.take_yes (i := 10) (d := some 66) (v := ?v33) rfl rfl (by kernel_rfl) (by kernel_rfl) (by kernel_rfl) (fun _ _ _ h => by cases h.1) (by rfl) ?y33 hHeld ?r33
    case y33 =>
      intro wS hS
      go_simp
      all_goals with_reducible rfl
    try simp only [Act.put, List.setIfInBounds_toArray, List.set_cons_zero, List.set_cons_succ]
    refine Reg.take_yes (i := 11) (d := some 67) (v := ?v34) rfl rfl (by kernel_rfl) (by kernel_rfl) (by kernel_rfl) (fun _ _ _ h => by cases h.1) (by rfl) ?y34 hHeld ?r34
    case y34 =>
      intro wS hS
      go_simp
      all_goals with_reducible rfl
    try simp only [Act.put, List.setIfInBounds_toArray, List.set_cons_zero, List.set_cons_succ]
    refine Reg.take_yes (i := 12) (d := some 68) (v := ?v35) rfl rfl (by kernel_rfl) (by kernel_rfl) (by kernel_rfl) (fun _ _ _ h => by cases h.1) (by rfl) ?y35 hHeld ?r35
    case y35 =>
      intro wS hS
      go_simp
      all_goals with_reducible rfl
    try simp only [Act.put, List.setIfInBounds_toArray, List.set_cons_zero, List.set_cons_succ]
    refine Reg.take_yes (i := 13) (d := some 69) (v := ?v36) rfl rfl (by kernel_rfl) (by kernel_rfl) (by kernel_rfl) (fun _ _ _ h => by cases h.1) (by rfl) ?y36 hHeld ?r36
    case y36 =>
      intro wS hS
      go_simp
      all_goals with_reducible rfl
    try simp only [Act.put, List.setIfInBounds_toArray, List.set_cons_zero, List.set_cons_succ]
    refine Reg.take_yes (i := 14) (d := some 70) (v := ?v37) rfl rfl (by kernel_rfl) (by kernel_rfl) (by kernel_rfl) (fun _ _ _ h => by cases h.1) (by rfl) ?y37 hHeld ?r37
    case y37 =>
      intro wS hS
      obtain ⟨sL, sB, s0, s1, s2, s3, s4, s5, s6, s7, s8, s9, s10, s11, s12, s13, s14, z0, z1, z2, z3, z4⟩ := hS
      go_simp
      all_goals with_reducible rfl
    try simp only [Act.put, List.setIfInBounds_toArray, List.set_cons_zero, List.set_cons_succ]
    refine Reg.take_yes (i := 15) (d := some 71) (v := ?v38) rfl rfl (by kernel_rfl) (by kernel_rfl) (by kernel_rfl) (fun _ _ _ h => by cases h.1) (by rfl) ?y38 hHeld ?r38
    case y38 =>
      intro wS hS
      obtain ⟨sL, sB, s0, s1, s2, s3, s4, s5, s6, s7, s8, s9, s10, s11, s12, s13, s14, z0, z1, z2, z3, z4⟩ := hS
      go_simp
      all_goals with_reducible rfl
    try simp only [Act.put, List.setIfInBounds_toArray, List.set_cons_zero, List.set_cons_succ]
    refine Reg.take_yes (i := 16) (d := some 72) (v := ?v39) rfl rfl (by kernel_rfl) (by kernel_rfl) (by kernel_rfl) (fun _ _ _ h => by cases h.1) (by rfl) ?y39 hHeld ?r39
    case y39 =>
      intro wS hS
      go_simp
      all_goals with_reducible rfl
    try simp only [Act.put, List.setIfInBounds_toArray, List.set_cons_zero, List.set_cons_succ]
    refine Reg.take_yes (i := 17) (d := some 73) (v := ?v40) rfl rfl (by kernel_rfl) (by kernel_rfl) (by kernel_rfl) (fun _ _ _ h => by cases h.1) (by rfl) ?y40 hHeld ?r40
    case y40 =>
      intro wS hS
      go_simp
      all_goals with_reducible rfl
    try simp only [Act.put, List.setIfInBounds_toArray, List.set_cons_zero, List.set_cons_succ]
    refine Reg.take_yes (i := 18) (d := some 74) (v := ?v41) rfl rfl (by kernel_rfl) (by kernel_rfl) (by kernel_rfl) (fun _ _ _ h => by cases h.1) (by rfl) ?y41 hHeld ?r41
    case y41 =>
      intro wS hS
      go_simp
      all_goals with_reducible rfl
    try simp only [Act.put, List.setIfInBounds_toArray, List.set_cons_zero, List.set_cons_succ]
    refine Reg.take_yes (i := 19) (d := some 75) (v := ?v42) rfl rfl (by kernel_rfl) (by kernel_rfl) (by kernel_rfl) (fun _ _ _ h => by cases h.1) (by rfl) ?y42 hHeld ?r42
    case y42 =>
      intro wS hS
      go_simp
      all_goals with_reducible rfl
    try simp only [Act.put, List.setIfInBounds_toArray, List.set_cons_zero, List.set_cons_succ]
    refine Reg.take_yes (i := 20) (d := some 76) (v := ?v43) rfl rfl (by kernel_rfl) (by kernel_rfl) (by kernel_rfl) (fun _ _ _ h => by cases h.1) (by rfl) ?y43 hHeld ?r43
    case y43 =>
      intro wS hS
      go_simp
      all_goals with_reducible rfl
    try simp only [Act.put, List.setIfInBounds_toArray, List.set_cons_zero, List.set_cons_succ]
    refine Reg.take_yes (i := 21) (d := some 77) (v := ?v44) rfl rfl (by kernel_rfl) (by kernel_rfl) (by kernel_rfl) (fun _ _ _ h => by cases h.1) (by rfl) ?y44 hHeld ?r44
    case y44 =>
      intro wS hS
      go_simp
      all_goals with_reducible rfl
    try simp only [Act.put, List.setIfInBounds_toArray, List.set_cons_zero, List.set_cons_succ]
    refine Reg.take_yes (i := 22) (d := some 78) (v := ?v45) rfl rfl (by kernel_rfl) (by kernel_rfl) (by kernel_rfl) (fun _ _ _ h => by cases h.1) (by rfl) ?y45 hHeld ?r45
    case y45 =>
      intro wS hS
      go_simp
      all_goals with_reducible rfl
    try simp only [Act.put, List.setIfInBounds_toArray, List.set_cons_zero, List.set_cons_succ]
    refine Reg.take_yes (i := 23) (d := some 79) (v := ?v46) rfl rfl (by kernel_rfl) (by kernel_rfl) (by kernel_rfl) (fun _ _ _ h => by cases h.1) (by rfl) ?y46 hHeld ?r46
    case y46 =>
      intro wS hS
      go_simp
      all_goals with_reducible rfl
    try simp only [Act.put, List.setIfInBounds_toArray, List.set_cons_zero, List.set_cons_succ]
    refine Reg.take_yes (i := 24) (d := some 80) (v := ?v47) rfl rfl (by kernel_rfl) (by kernel_rfl) (by kernel_rfl) (fun _ _ _ h => by cases h.1) (by rfl) ?y47 hHeld ?r47
    case y47 =>
      intro wS hS
      obtain ⟨sL, sB, s0, s1, s2, s3, s4, s5, s6, s7, s8, s9, s10, s11, s12, s13, s14, z0, z1, z2, z3, z4⟩ := hS
      go_simp
      all_goals with_reducible rfl
    try simp only [Act.put, List.setIfInBounds_toArray, List.set_cons_zero, List.set_cons_succ]
    refine Reg.take_yes (i := 26) (d := some 82) (v := ?v48) rfl rfl (by kernel_rfl) (by kernel_rfl) (by kernel_rfl) (fun _ _ _ h => by cases h.1) (by rfl) ?y48 hHeld ?r48
    case y48 =>
      intro wS hS
      obtain ⟨sL, sB, s0, s1, s2, s3, s4, s5, s6, s7, s8, s9, s10, s11, s12, s13, s14, z0, z1, z2, z3, z4⟩ := hS
      go_simp
      all_goals with_reducible rfl
    try simp only [Act.put, List.setIfInBounds_toArray, List.set_cons_zero, List.set_cons_succ]
    refine wpAnyH_ready (rs := [25]) (by kernel_rfl) (by simp) ?_
    refine Reg.cons_yes rfl (by rfl) (fun K hK => ?_) ?_
    · go_simp
      have hH := hHeld
      obtain ⟨sL, sB, s0, s1, s2, s3, s4, s5, s6, s7, s8, s9, s10, s11, s12, s13, s14, z0, z1, z2, z3, z4⟩ := hH
      refine Calls.mono (HM.out _ sL) ?_
      rintro e wA ⟨rfl, hb⟩
      refine hK.out _ _ (⟨sL.below hb, below_then sB sB.size hb, cell_later hb s0, cell_later hb s1, cell_later hb s2, cell_later hb s3, cell_later hb s4, cell_later hb s5, cell_later hb s6, cell_later hb s7, cell_later hb s8, cell_later hb s9, cell_later hb s10, cell_later hb s11, cell_later hb s12, cell_later hb s13, cell_later hb s14, Nat.lt_of_lt_of_le z0 hb.size, Nat.lt_of_lt_of_le z1 hb.size, Nat.lt_of_lt_of_le z2 hb.size, Nat.lt_of_lt_of_le z3 hb.size, Nat.lt_of_lt_of_le z4 hb.size⟩) (fun hHeld => ?_)
      clear hK K
      try simp only [Act.put, List.setIfInBounds_toArray, List.set_cons_zero, List.set_cons_succ]
      refine wpAnyH_ready (rs := [27]) (by kernel_rfl) (by simp) ?_
      refine Reg.cons_yes rfl (by rfl) (fun K hK => ?_) ?_
      · go_simp
        have hH := hHeld
        obtain ⟨sL, sB, s0, s1, s2, s3, s4, s5, s6, s7, s8, s9, s10, s11, s12, s13, s14, z0, z1, z2, z3, z4⟩ := hH
        refine Calls.mono (HN.out _ sL) ?_
        rintro e wA ⟨rfl, hb⟩
        refine hK.out _ _ (⟨sL.below hb, below_then sB sB.size hb, cell_later hb s0, cell_later hb s1, cell_later hb s2, cell_later hb s3, cell_later hb s4, cell_later hb s5, cell_later hb s6, cell_later hb s7, cell_later hb s8, cell_later hb s9, cell_later hb s10, cell_later hb s11, cell_later hb s12, cell_later hb s13, cell_later hb s14, Nat.lt_of_lt_of_le z0 hb.size, Nat.lt_of_lt_of_le z1 hb.size, Nat.lt_of_lt_of_le z2 hb.size, Nat.lt_of_lt_of_le z3 hb.size, Nat.lt_of_lt_of_le z4 hb.size⟩) (fun hHeld => ?_)
        clear hK K
        try simp only [Act.put, List.setIfInBounds_toArray, List.set_cons_zero, List.set_cons_succ]
        refine Reg.take_yes (i := 28) (d := some 84) (v := ?v49) rfl rfl (by kernel_rfl) (by kernel_rfl) (by kernel_rfl) (fun _ _ _ h => by cases h.1) (by rfl) ?y49 hHeld ?r49
        case y49 =>
          intro wS hS
          go_simp
          all_goals with_reducible rfl
        try simp only [Act.put, List.setIfInBounds_toArray, List.set_cons_zero, List.set_cons_succ]
        refine Reg.take_yes (i := 29) (d := some 85) (v := ?v50) rfl rfl (by kernel_rfl) (by kernel_rfl) (by kernel_rfl) (fun _ _ _ h => by cases h.1) (by rfl) ?y50 hHeld ?r50
        case y50 =>
          intro wS hS
          go_simp
          all_goals with_reducible rfl
        try simp only [Act.put, List.setIfInBounds_toArray, List.set_cons_zero, List.set_cons_succ]
        refine Reg.take_yes (i := 30) (d := some 86) (v := ?v51) rfl rfl (by kernel_rfl) (by kernel_rfl) (by kernel_rfl) (fun _ _ _ h => by cases h.1) (by rfl) ?y51 hHeld ?r51
        case y51 =>
          intro wS hS
          go_simp
          all_goals with_reducible rfl
        try simp only [Act.put, List.setIfInBounds_toArray, List.set_cons_zero, List.set_cons_succ]
        refine Reg.take_yes (i := 31) (d := some 87) (v := ?v52) rfl rfl (by kernel_rfl) (by kernel_rfl) (by kernel_rfl) (fun _ _ _ h => by cases h.1) (by rfl) ?y52 hHeld ?r52
        case y52 =>
          intro wS hS
          obtain ⟨sL, sB, s0, s1, s2, s3, s4, s5, s6, s7, s8, s9, s10, s11, s12, s13, s14, z0, z1, z2, z3, z4⟩ := hS
          go_simp
          all_goals with_reducible rfl
        try simp only [Act.put, List.setIfInBounds_toArray, List.set_cons_zero, List.set_cons_succ]
        refine Reg.take_yes (i := 32) (d := some 88) (v := ?v53) rfl rfl (by kernel_rfl) (by kernel_rfl) (by kernel_rfl) (fun _ _ _ h => by cases h.1) (by rfl) ?y53 hHeld ?r53
        case y53 =>
          intro wS hS
          go_simp
          all_goals with_reducible rfl
        try simp only [Act.put, List.setIfInBounds_toArray, List.set_cons_zero, List.set_cons_succ]
        refine Reg.take_yes (i := 34) (d := some 90) (v := ?v54) rfl rfl (by kernel_rfl) (by kernel_rfl) (by kernel_rfl) (fun _ _ _ h => by cases h.1) (by rfl) ?y54 hHeld ?r54
        case y54 =>
          intro wS hS
          obtain ⟨sL, sB, s0, s1, s2, s3, s4, s5, s6, s7, s8, s9, s10, s11, s12, s13, s14, z0, z1, z2, z3, z4⟩ := hS
          go_simp
          all_goals with_reducible rfl
        try simp only [Act.put, List.setIfInBounds_toArray, List.set_cons_zero, List.set_cons_succ]
        refine Reg.take_yes (i := 35) (d := some 91) (v := ?v55) rfl rfl (by kernel_rfl) (by kernel_rfl) (by kernel_rfl) (fun _ _ _ h => by cases h.1) (by rfl) ?y55 hHeld ?r55
        case y55 =>
          intro wS hS
          go_simp
          all_goals with_reducible rfl
        try simp only [Act.put, List.setIfInBounds_toArray, List.set_cons_zero, List.set_cons_succ]
        refine wpAnyH_ready (rs := [33]) (by kernel_rfl) (by simp) ?_
        refine Reg.cons_yes rfl (by rfl) (fun K hK => ?_) ?_
        · go_simp
          have hH := hHeld
          obtain ⟨sL, sB, s0, s1, s2, s3, s4, s5, s6, s7, s8, s9, s10, s11, s12, s13, s14, z0, z1, z2, z3, z4⟩ := hH
          refine Calls.mono (HI.out _ sL) ?_
          rintro e wA ⟨rfl, hb⟩
          refine hK.out _ _ (⟨sL.below hb, below_then sB sB.size hb, cell_later hb s0, cell_later hb s1, cell_later hb s2, cell_later hb s3, cell_later hb s4, cell_later hb s5, cell_later hb s6, cell_later hb s7, cell_later hb s8, cell_later hb s9, cell_later hb s10, cell_later hb s11, cell_later hb s12, cell_later hb s13, cell_later hb s14, Nat.lt_of_lt_of_le z0 hb.size, Nat.lt_of_lt_of_le z1 hb.size, Nat.lt_of_lt_of_le z2 hb.size, Nat.lt_of_lt_of_le z3 hb.size, Nat.lt_of_lt_of_le z4 hb.size⟩) (fun hHeld => ?_)
          clear hK K
          try simp only [Act.put, List.setIfInBounds_toArray, List.set_cons_zero, List.set_cons_succ]
          refine wpAnyH_ready (rs := [36]) (by kernel_rfl) (by simp) ?_
          refine Reg.cons_yes rfl (by rfl) (fun K hK => ?_) ?_
          · go_simp
            have hH := hHeld
            obtain ⟨sL, sB, s0, s1, s2, s3, s4, s5, s6, s7, s8, s9, s10, s11, s12, s13, s14, z0, z1, z2, z3, z4⟩ := hH
            refine Calls.mono (HJ.out _ sL) ?_
            rintro e wA ⟨rfl, hb⟩
            refine hK.out _ _ (⟨sL.below hb, below_then sB sB.size hb, cell_later hb s0, cell_later hb s1, cell_later hb s2, cell_later hb s3, cell_later hb s4, cell_later hb s5, cell_later hb s6, cell_later hb s7, cell_later hb s8, cell_later hb s9, cell_later hb s10, cell_later hb s11, cell_later hb s12, cell_later hb s13, cell_later hb s14, Nat.lt_of_lt_of_le z0 hb.size, Nat.lt_of_lt_of_le z1 hb.size, Nat.lt_of_lt_of_le z2 hb.size, Nat.lt_of_lt_of_le z3 hb.size, Nat.lt_of_lt_of_le z4 hb.size⟩) (fun hHeld => ?_)
            clear hK K
            try simp only [Act.put, List.setIfInBounds_toArray, List.set_cons_zero, List.set_cons_succ]
            refine Reg.take_yes (i := 37) (d := some 93) (v := ?v56) rfl rfl (by kernel_rfl) (by kernel_rfl) (by kernel_rfl) (fun _ _ _ h => by cases h.1) (by rfl) ?y56 hHeld ?r56
            case y56 =>
              intro wS hS
              go_simp
              all_goals with_reducible rfl
            try simp only [Act.put, List.setIfInBounds_toArray, List.set_cons_zero, List.set_cons_succ]
            refine Reg.take_yes (i := 38) (d := some 94) (v := ?v57) rfl rfl (by kernel_rfl) (by kernel_rfl) (by kernel_rfl) (fun _ _ _ h => by cases h.1) (by rfl) ?y57 hHeld ?r57
            case y57 =>
              intro wS hS
              go_simp
              all_goals with_reducible rfl
            try simp only [Act.put, List.setIfInBounds_toArray, List.set_cons_zero, List.set_cons_succ]
            refine Reg.take_yes (i := 39) (d := some 4) (v := ?v58) rfl rfl (by kernel_rfl) (by kernel_rfl) (by kernel_rfl) (fun _ _ _ h => by cases h.1) (by rfl) ?y58 hHeld ?r58
            case y58 =>
              intro wS hS
              go_simp
              all_goals with_reducible rfl
            try simp only [Act.put, List.setIfInBounds_toArray, List.set_cons_zero, List.set_cons_succ]
            refine wpAnyH_done (by kernel_rfl) ?_ _
            refine ⟨rfl, ?_, hHeld⟩
            with_reducible rfl
          exact AllReadyH.nil
        exact AllReadyH.nil
      exact AllReadyH.nil
    exact AllReadyH.nil
  rintro w7 ⟨hL, hB, s0, s1, s2, s3, s4, s5, s6, s7, s8, s9, s10, s11, s12, s13, s14, z0, z1, z2, z3, z4⟩
  have hid7 := Lib.hid hB
  have P7 := Lib.hid (Own3.mk z0 s0 s1 s2)
  have A7 := Lib.hid (Own3.mk z1 s3 s4 s5)
  have B7 := Lib.hid (Own3.mk z2 s6 s7 s8)
  have C7 := Lib.hid (Own3.mk z3 s9 s10 s11)
  have D7 := Lib.hid (Own3.mk z4 s12 s13 s14)
  clear hL hB s0 s1 s2 s3 s4 s5 s6 s7 s8 s9 s10 s11 s12 s13 s14 z0 z1 z2 z3 z4
  clear eBel2 eLd2 ePBlk2 eABlk2 eBBlk2 eCBlk2 eDBlk2
  have Pq0 := P7.out.c0
  have Pq1 := P7.out.c1
  have Pq2 := P7.out.c2
  have Aq0 := A7.out.c0
  have Aq1 := A7.out.c1
  have Aq2 := A7.out.c2
  have Bq0 := B7.out.c0
  have Bq1 := B7.out.c1
  have Bq2 := B7.out.c2
  have Cq0 := C7.out.c0
  have Cq1 := C7.out.c1
  have Cq2 := C7.out.c2
  have Dq0 := D7.out.c0
  have Dq1 := D7.out.c1
  have Dq2 := D7.out.c2
  go_wp2_with fail
  go_ret
  exact ⟨rfl, hid7.out⟩
end
end Go.Proofs.YtojklokbdmelhaaDoor.SPoolDoes
