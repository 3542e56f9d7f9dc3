/- BytesBack, the walk, over the contracts of what it calls. -/
import Derived.Test.YthfmhcbeodjffaaBytesW
import Derived.Test.YthfmhcbeodjffaaReg
import Derived.WalkSpells
import Derived.Lib.Hide
set_option linter.unusedVariables false
set_option linter.unusedSimpArgs false
namespace Go.Proofs.Ythfmhcbeodjffaa.BytesBack
open Go.RowKit Go.Proofs.YthfmhcbeodjffaaW.PrintWords Go.Proofs.Ythfmhcbeodjffaa.Bits Go.Proofs.Ythfmhcbeodjffaa.BytesW Go.Proofs.Ythfmhcbeodjffaa.PBytesPuts
/-- What Put answers. -/
def Puts (l : List Nat) (W : World) (e : Ending) (w' : World) : Prop := ∃ r, e = .returned r ∧ Own w' W.heap.size r l ∧ Below W.heap.size W w'
def str (l : List Nat) : ByteArray := strOfNums (up l)
theorem str_size (l : List Nat) : (str l).size = l.length := by simp [str, strOfNums, up, ByteArray.size]
theorem str_app (l m : List Nat) : str (l ++ m) = str l ++ str m := by
  apply ByteArray.ext
  simp [str, strOfNums, up_app, ByteArray.data_append]
theorem str_of {w : World} {A : Option Addr} {n : Nat} {l : List Nat} (h : Rd w A n l) (c : Nat) : (convert 23 9 (.slice A n c)).run Try.prog w = .ok (.string (str l)) w :=
  string_of_reads Try.underlying23 Try.underlying5 Try.underlying9 h

set_option maxRecDepth 100000 in
set_option maxHeartbeats 4000000 in
theorem walk1 (v x hi y a : Int) (vn hn : Nat) (z : Bool) (A : Option Addr) (n cap : Nat) (l : List Nat) (w : World) (h : Rd w A n l) (hc : n ≤ cap) (hn8 : n ≤ 8)
    (HP0 : ∀ W, Calls Try.prog 8 #[.int .u8 a] W (Ans (.int .i64 1) W))
    (HPut0 : ∀ W, Calls Try.prog 9 #[.int .u64 v, .int .i64 1] W (Puts (bys vn 1) W))
    (HLow0 : ∀ W, Calls Try.prog 11 #[.int .u64 v, .int .i64 1] W (Ans (.int .u64 x) W))
    (HGet0 : ∀ W A c, Rd W A 1 (bys vn 1) → 1 ≤ c → Calls Try.prog 13 #[.slice A 1 c] W (Ans (.int .u64 x) W))
    (HSz0 : ∀ W, Calls Try.prog 16 #[.int .i64 (n : Int)] W (Ans (.bool z) W))
    (HGb0 : z = true → ∀ W, Rd W A n l → Calls Try.prog 13 #[.slice A n cap] W (Ans (.int .u64 y) W))
    (HPb0 : z = true → ∀ W, Calls Try.prog 9 #[.int .u64 y, .int .i64 (n : Int)] W (Puts l W))
    (HPuta0 : ∀ W, Calls Try.prog 9 #[.int .u64 v, .int .i64 2] W (Puts (bys vn 2) W))
    (HPutb0 : ∀ W, Calls Try.prog 9 #[.int .u64 hi, .int .i64 1] W (Puts (bys hn 1) W))
    (hst : str (bys vn 2) = str (bys vn 1) ++ str (bys hn 1))
    (hv0 : 0 ≤ v) (hx0 : 0 ≤ x) (hj : v / 256 = hi) (hk : x / 256 = 0) :
    Calls Try.prog 4 #[.int .u64 v, .int .u8 a, .slice A n cap] w fun e w' => e = .returned (.bool true) ∧ Below w.heap.size w w' := by
  have HP := Lib.hid HP0
  have HPut := Lib.hid HPut0
  have HLow := Lib.hid HLow0
  have HGet := Lib.hid HGet0
  have HSz := Lib.hid HSz0
  have HGb := Lib.hid HGb0
  have HPb := Lib.hid HPb0
  have HPuta := Lib.hid HPuta0
  have HPutb := Lib.hid HPutb0
  have HST := Lib.hid hst
  clear hst
  have HR := Lib.hid h
  have HLn := Lib.hid h.len
  have hid0 := Lib.hid (Below.refl w.heap.size w)
  clear h HP0 HPut0 HLow0 HGet0 HSz0 HGb0 HPb0 HPuta0 HPutb0
  go_enter Try.func4, Try.ntmps4
  go_wp2_with fail
  refine (awake_says _).mono ?_
  rintro e w1 ⟨rfl, hb⟩
  have hid1 := Lib.hid hb
  clear hb hid0
  go_wp2_with fail
  refine (HP.out _).mono ?_
  rintro e w2 ⟨rfl, hb⟩
  have hid2 := Lib.hid (below_step hid1.out hb)
  clear hb hid1
  go_wp2_with fail
  refine (HPut.out _).mono ?_
  rintro e w3 ⟨vp, rfl, hop, hb⟩
  obtain ⟨Ap, cp, rfl, hcp, hrp⟩ := Own.slice hop
  rw [bys_len] at hcp hrp ⊢
  have HRp := Lib.hid hrp
  have hid3 := Lib.hid (below_step hid2.out hb)
  clear hb hid2 hop hrp
  go_wp2_with fail
  refine (HGet.out _ _ _ HRp.out hcp).mono ?_
  rintro e w4 ⟨rfl, hb⟩
  have HRp4 := Lib.hid (HRp.out.below hb)
  have hid4 := Lib.hid (below_step hid3.out hb)
  clear hb hid3 HRp
  go_wp2_with fail
  refine (HLow.out _).mono ?_
  rintro e w5 ⟨rfl, hb⟩
  have HRp5 := Lib.hid (HRp4.out.below hb)
  have hid5 := Lib.hid (below_step hid4.out hb)
  clear hb hid4 HRp4
  go_wp2_with fail
  have eB := Lib.hid hid5.out.drew
  have ep := Lib.hid (HRp5.out.below (Below.refl _ _).drew)
  have eb := Lib.hid (HR.out.below eB.out)
  clear hid5 HRp5
  have hwi2 : IntKind.i64.wrap 2 = 2 := by decide
  have hwu2 : IntKind.u64.wrap 2 = 2 := by decide
  have hwi8 : IntKind.i64.wrap 8 = 8 := by decide
  have hwu8 : IntKind.u64.wrap 8 = 8 := by decide
  refine wp_region_held_drew (S := (fun w' => (Below w.heap.size w w') ∧ (Rd w' A n l) ∧ (Rd w' Ap 1 (bys vn 1)))) (by kernel_rfl) (⟨eB.out, eb.out, ep.out⟩) (fun hHeld => ?_)
  refine Reg.take_yes (i := 0) (d := some 44) (v := ?v1) rfl rfl (by kernel_rfl) (by kernel_rfl) (by kernel_rfl) (fun _ _ _ h => h) (by rfl) ?y1 hHeld ?r1
  case y1 =>
    intro wS hS
    go_simp
    all_goals with_reducible rfl
  try simp only [Act.put, List.setIfInBounds_toArray, List.set_cons_zero, List.set_cons_succ]
  refine Reg.take_yes (i := 1) (d := some 45) (v := ?v2) rfl rfl (by kernel_rfl) (by kernel_rfl) (by kernel_rfl) (fun _ _ _ h => h) (by rfl) ?y2 hHeld ?r2
  case y2 =>
    intro wS hS
    go_simp
    all_goals with_reducible rfl
  try simp only [Act.put, List.setIfInBounds_toArray, List.set_cons_zero, List.set_cons_succ]
  refine Reg.take_yes (i := 2) (d := some 46) (v := ?v3) rfl rfl (by kernel_rfl) (by kernel_rfl) (by kernel_rfl) (fun _ _ _ h => h) (by rfl) ?y3 hHeld ?r3
  case y3 =>
    intro wS hS
    go_simp
    all_goals with_reducible rfl
  try simp only [Act.put, List.setIfInBounds_toArray, List.set_cons_zero, List.set_cons_succ]
  refine Reg.take_yes (i := 3) (d := some 47) (v := ?v4) rfl rfl (by kernel_rfl) (by kernel_rfl) (by kernel_rfl) (fun _ _ _ h => h) (by rfl) ?y4 hHeld ?r4
  case y4 =>
    intro wS hS
    go_simp
    all_goals with_reducible rfl
  try simp only [Act.put, List.setIfInBounds_toArray, List.set_cons_zero, List.set_cons_succ]
  refine Reg.take_yes (i := 4) (d := some 48) (v := ?v5) rfl rfl (by kernel_rfl) (by kernel_rfl) (by kernel_rfl) (fun _ _ _ h => h) (by rfl) ?y5 hHeld ?r5
  case y5 =>
    intro wS hS
    go_simp
    all_goals with_reducible rfl
  try simp only [Act.put, List.setIfInBounds_toArray, List.set_cons_zero, List.set_cons_succ]
  refine Reg.take_yes (i := 5) (d := some 49) (v := ?v6) rfl rfl (by kernel_rfl) (by kernel_rfl) (by kernel_rfl) (fun _ _ _ h => h) (by rfl) ?y6 hHeld ?r6
  case y6 =>
    intro wS hS
    go_simp
    all_goals with_reducible rfl
  try simp only [Act.put, List.setIfInBounds_toArray, List.set_cons_zero, List.set_cons_succ]
  refine Reg.take_yes (i := 8) (d := some 52) (v := ?v7) rfl rfl (by kernel_rfl) (by kernel_rfl) (by kernel_rfl) (fun _ _ _ h => h) (by rfl) ?y7 hHeld ?r7
  case y7 =>
    intro wS hS
    go_simp
    all_goals with_reducible rfl
  try simp only [Act.put, List.setIfInBounds_toArray, List.set_cons_zero, List.set_cons_succ]
  refine Reg.take_yes (i := 9) (d := some 53) (v := ?v8) rfl rfl (by kernel_rfl) (by kernel_rfl) (by kernel_rfl) (fun _ _ _ h => h) (by rfl) ?y8 hHeld ?r8
  case y8 =>
    intro wS hS
    obtain ⟨sB, sb, sp⟩ := hS
    have hc := str_of sp cp
    go_simp
    all_goals with_reducible rfl
  try simp only [Act.put, List.setIfInBounds_toArray, List.set_cons_zero, List.set_cons_succ]
  refine Reg.take_yes (i := 10) (d := some 54) (v := ?v9) rfl rfl (by kernel_rfl) (by kernel_rfl) (by kernel_rfl) (fun _ _ _ h => h) (by rfl) ?y9 hHeld ?r9
  case y9 =>
    intro wS hS
    go_simp
    all_goals with_reducible rfl
  try simp only [Act.put, List.setIfInBounds_toArray, List.set_cons_zero, List.set_cons_succ]
  refine Reg.take_yes (i := 11) (d := some 55) (v := ?v10) rfl rfl (by kernel_rfl) (by kernel_rfl) (by kernel_rfl) (fun _ _ _ h => h) (by rfl) ?y10 hHeld ?r10
  case y10 =>
    intro wS hS
    go_simp
    all_goals with_reducible rfl
  try simp only [Act.put, List.setIfInBounds_toArray, List.set_cons_zero, List.set_cons_succ]
  refine Reg.take_yes (i := 12) (d := some 56) (v := ?v11) rfl rfl (by kernel_rfl) (by kernel_rfl) (by kernel_rfl) (fun _ _ _ h => h) (by rfl) ?y11 hHeld ?r11
  case y11 =>
    intro wS hS
    go_simp
    all_goals with_reducible rfl
  try simp only [Act.put, List.setIfInBounds_toArray, List.set_cons_zero, List.set_cons_succ]
  refine Reg.take_yes (i := 13) (d := some 57) (v := ?v12) rfl rfl (by kernel_rfl) (by kernel_rfl) (by kernel_rfl) (fun _ _ _ h => h) (by rfl) ?y12 hHeld ?r12
  case y12 =>
    intro wS hS
    go_simp
    all_goals with_reducible rfl
  try simp only [Act.put, List.setIfInBounds_toArray, List.set_cons_zero, List.set_cons_succ]
  refine Reg.take_yes (i := 14) (d := some 58) (v := ?v13) rfl rfl (by kernel_rfl) (by kernel_rfl) (by kernel_rfl) (fun _ _ _ h => h) (by rfl) ?y13 hHeld ?r13
  case y13 =>
    intro wS hS
    go_simp
    all_goals with_reducible rfl
  try simp only [Act.put, List.setIfInBounds_toArray, List.set_cons_zero, List.set_cons_succ]
  refine Reg.take_yes (i := 15) (d := some 59) (v := ?v14) rfl rfl (by kernel_rfl) (by kernel_rfl) (by kernel_rfl) (fun _ _ _ h => h) (by rfl) ?y14 hHeld ?r14
  case y14 =>
    intro wS hS
    go_simp
    all_goals with_reducible rfl
  try simp only [Act.put, List.setIfInBounds_toArray, List.set_cons_zero, List.set_cons_succ]
  refine wpAnyH_ready (rs := [6]) (by kernel_rfl) (by simp) ?_
  refine Reg.cons_yes rfl (by rfl) (fun K hK => ?_) ?_
  · go_simp
    have hH := hHeld
    obtain ⟨sB, sb, sp⟩ := hH
    refine (HPuta.out _).mono ?_
    rintro e wA ⟨r, rfl, hor, hb⟩
    obtain ⟨Aa, ca, rfl, _, hrr⟩ := Own.slice hor
    rw [bys_len] at hrr ⊢
    clear hor
    refine hK.out _ _ (⟨below_step sB hb, sb.below hb, sp.below hb⟩) (fun hHeld => ?_)
    have hHeld := (show (fun w' => (Rd w' Aa 2 (bys vn 2)) ∧ (Below w.heap.size w w') ∧ (Rd w' A n l) ∧ (Rd w' Ap 1 (bys vn 1))) _ from ⟨hrr, hHeld⟩)
    refine Reg.imp (S' := (fun w' => (Rd w' Aa 2 (bys vn 2)) ∧ (Below w.heap.size w w') ∧ (Rd w' A n l) ∧ (Rd w' Ap 1 (bys vn 1)))) (fun _ hh => hh.2) _ _ _ _ ?_
    clear hK K sB sb sp
    try simp only [Act.put, List.setIfInBounds_toArray, List.set_cons_zero, List.set_cons_succ]
    refine Reg.take_yes (i := 7) (d := some 51) (v := ?v15) rfl rfl (by kernel_rfl) (by kernel_rfl) (by kernel_rfl) (fun _ _ _ h => h) (by rfl) ?y15 hHeld ?r15
    case y15 =>
      intro wS hS
      obtain ⟨sa, sB, sb, sp⟩ := hS
      have hc := str_of sa ca
      rw [HST.out] at hc
      go_simp
      all_goals with_reducible rfl
    try simp only [Act.put, List.setIfInBounds_toArray, List.set_cons_zero, List.set_cons_succ]
    refine wpAnyH_ready (rs := [16]) (by kernel_rfl) (by simp) ?_
    refine Reg.cons_yes rfl (by rfl) (fun K hK => ?_) ?_
    · go_simp
      have hH := hHeld
      obtain ⟨sa, sB, sb, sp⟩ := hH
      refine (HPutb.out _).mono ?_
      rintro e wA ⟨r, rfl, hor, hb⟩
      obtain ⟨Ac, cc, rfl, _, hrr⟩ := Own.slice hor
      rw [bys_len] at hrr ⊢
      clear hor
      refine hK.out _ _ (⟨sa.below hb, below_step sB hb, sb.below hb, sp.below hb⟩) (fun hHeld => ?_)
      have hHeld := (show (fun w' => (Rd w' Ac 1 (bys hn 1)) ∧ (Rd w' Aa 2 (bys vn 2)) ∧ (Below w.heap.size w w') ∧ (Rd w' A n l) ∧ (Rd w' Ap 1 (bys vn 1))) _ from ⟨hrr, hHeld⟩)
      refine Reg.imp (S' := (fun w' => (Rd w' Ac 1 (bys hn 1)) ∧ (Rd w' Aa 2 (bys vn 2)) ∧ (Below w.heap.size w w') ∧ (Rd w' A n l) ∧ (Rd w' Ap 1 (bys vn 1)))) (fun _ hh => hh.2) _ _ _ _ ?_
      clear hK K sa sB sb sp
      try simp only [Act.put, List.setIfInBounds_toArray, List.set_cons_zero, List.set_cons_succ]
      refine Reg.take_yes (i := 17) (d := some 61) (v := ?v16) rfl rfl (by kernel_rfl) (by kernel_rfl) (by kernel_rfl) (fun _ _ _ h => h) (by rfl) ?y16 hHeld ?r16
      case y16 =>
        intro wS hS
        obtain ⟨sc, sa, sB, sb, sp⟩ := hS
        have hc := str_of sc cc
        go_simp
        all_goals with_reducible rfl
      try simp only [Act.put, List.setIfInBounds_toArray, List.set_cons_zero, List.set_cons_succ]
      refine Reg.take_yes (i := 18) (d := some 62) (v := ?v17) rfl rfl (by kernel_rfl) (by kernel_rfl) (by kernel_rfl) (fun _ _ _ h => h) (by rfl) ?y17 hHeld ?r17
      case y17 =>
        intro wS hS
        obtain ⟨sc, sa, sB, sb, sp⟩ := hS
        have hz1 := str_size (bys vn 1)
        have hz2 := str_size (bys hn 1)
        rw [bys_len] at hz1 hz2
        have hz3 := fun w => run_string_add_sum (P := Try.prog) w (str (bys vn 1)) (str (bys hn 1)) (by omega)
        go_simp
        all_goals with_reducible rfl
      try simp only [Act.put, List.setIfInBounds_toArray, List.set_cons_zero, List.set_cons_succ]
      refine Reg.take_yes (i := 19) (d := some 63) (v := ?v18) rfl rfl (by kernel_rfl) (by kernel_rfl) (by kernel_rfl) (fun _ _ _ h => h) (by rfl) ?y18 hHeld ?r18
      case y18 =>
        intro wS hS
        go_simp
        all_goals with_reducible rfl
      try simp only [Act.put, List.setIfInBounds_toArray, List.set_cons_zero, List.set_cons_succ]
      refine Reg.take_yes (i := 20) (d := some 64) (v := ?v19) rfl rfl (by kernel_rfl) (by kernel_rfl) (by kernel_rfl) (fun _ _ _ h => h) (by rfl) ?y19 hHeld ?r19
      case y19 =>
        intro wS hS
        go_simp
        all_goals with_reducible rfl
      try simp only [Act.put, List.setIfInBounds_toArray, List.set_cons_zero, List.set_cons_succ]
      refine Reg.take_yes (i := 21) (d := some 65) (v := ?v20) rfl rfl (by kernel_rfl) (by kernel_rfl) (by kernel_rfl) (fun _ _ _ h => h) (by rfl) ?y20 hHeld ?r20
      case y20 =>
        intro wS hS
        go_simp
        all_goals with_reducible rfl
      try simp only [Act.put, List.setIfInBounds_toArray, List.set_cons_zero, List.set_cons_succ]
      refine Reg.take_yes (i := 22) (d := some 66) (v := ?v21) rfl rfl (by kernel_rfl) (by kernel_rfl) (by kernel_rfl) (fun _ _ _ h => h) (by rfl) ?y21 hHeld ?r21
      case y21 =>
        intro wS hS
        go_simp
        all_goals with_reducible rfl
      try simp only [Act.put, List.setIfInBounds_toArray, List.set_cons_zero, List.set_cons_succ]
      refine Reg.take_yes (i := 24) (d := some 68) (v := ?v22) rfl rfl (by kernel_rfl) (by kernel_rfl) (by kernel_rfl) (fun _ _ _ h => h) (by rfl) ?y22 hHeld ?r22
      case y22 =>
        intro wS hS
        go_simp
        all_goals with_reducible rfl
      try simp only [Act.put, List.setIfInBounds_toArray, List.set_cons_zero, List.set_cons_succ]
      refine Reg.take_yes (i := 25) (d := some 69) (v := ?v23) rfl rfl (by kernel_rfl) (by kernel_rfl) (by kernel_rfl) (fun _ _ _ h => h) (by rfl) ?y23 hHeld ?r23
      case y23 =>
        intro wS hS
        go_simp
        all_goals with_reducible rfl
      try simp only [Act.put, List.setIfInBounds_toArray, List.set_cons_zero, List.set_cons_succ]
      refine Reg.take_yes (i := 26) (d := some 70) (v := ?v24) rfl rfl (by kernel_rfl) (by kernel_rfl) (by kernel_rfl) (fun _ _ _ h => h) (by rfl) ?y24 hHeld ?r24
      case y24 =>
        intro wS hS
        go_simp
        all_goals with_reducible rfl
      try simp only [Act.put, List.setIfInBounds_toArray, List.set_cons_zero, List.set_cons_succ]
      refine wpAnyH_ready (rs := [23]) (by kernel_rfl) (by simp) ?_
      refine Reg.cons_yes rfl (by rfl) (fun K hK => ?_) ?_
      · go_simp
        have hH := hHeld
        obtain ⟨sc, sa, sB, sb, sp⟩ := hH
        refine (HLow.out _).mono ?_
        rintro e wA ⟨rfl, hb⟩
        refine hK.out _ _ (⟨sc.below hb, sa.below hb, below_step sB hb, sb.below hb, sp.below hb⟩) (fun hHeld => ?_)
        clear hK K sc sa sB sb sp
        try simp only [Act.put, List.setIfInBounds_toArray, List.set_cons_zero, List.set_cons_succ]
        refine Reg.take_yes (i := 27) (d := some 71) (v := ?v25) rfl rfl (by kernel_rfl) (by kernel_rfl) (by kernel_rfl) (fun _ _ _ h => h) (by rfl) ?y25 hHeld ?r25
        case y25 =>
          intro wS hS
          go_simp
          all_goals with_reducible rfl
        try simp only [Act.put, List.setIfInBounds_toArray, List.set_cons_zero, List.set_cons_succ]
        refine Reg.take_yes (i := 28) (d := some 72) (v := ?v26) rfl rfl (by kernel_rfl) (by kernel_rfl) (by kernel_rfl) (fun _ _ _ h => h) (by rfl) ?y26 hHeld ?r26
        case y26 =>
          intro wS hS
          go_simp
          all_goals with_reducible rfl
        try simp only [Act.put, List.setIfInBounds_toArray, List.set_cons_zero, List.set_cons_succ]
        refine Reg.take_yes (i := 29) (d := some 73) (v := ?v27) rfl rfl (by kernel_rfl) (by kernel_rfl) (by kernel_rfl) (fun _ _ _ h => h) (by rfl) ?y27 hHeld ?r27
        case y27 =>
          intro wS hS
          go_simp
          all_goals with_reducible rfl
        try simp only [Act.put, List.setIfInBounds_toArray, List.set_cons_zero, List.set_cons_succ]
        refine Reg.take_yes (i := 30) (d := some 74) (v := ?v28) rfl rfl (by kernel_rfl) (by kernel_rfl) (by kernel_rfl) (fun _ _ _ h => h) (by rfl) ?y28 hHeld ?r28
        case y28 =>
          intro wS hS
          go_simp
          all_goals with_reducible rfl
        try simp only [Act.put, List.setIfInBounds_toArray, List.set_cons_zero, List.set_cons_succ]
        refine wpAnyH_done (by kernel_rfl) ?_ _
        obtain ⟨sc, sa, sB, sb, sp⟩ := hHeld
        go_wp2_with fail
        have eB9 := Lib.hid sB.drew
        have eb9 := Lib.hid (sb.below (Below.refl _ _).drew)
        clear sB sb sp eB eb ep
        cases z with
        | false =>
          refine wp_region_held_drew (S := (fun w' => (Below w.heap.size w w') ∧ (Rd w' A n l))) (by kernel_rfl) (⟨eB9.out, eb9.out⟩) (fun hHeld => ?_)
          refine Reg.take_yes (i := 0) (d := some 75) (v := ?v29) rfl rfl (by kernel_rfl) (by kernel_rfl) (by kernel_rfl) (fun _ _ _ h => h) (by rfl) ?y29 hHeld ?r29
          case y29 =>
            intro wS hS
            go_simp
            all_goals with_reducible rfl
          try simp only [Act.put, List.setIfInBounds_toArray, List.set_cons_zero, List.set_cons_succ]
          refine Reg.take_yes (i := 1) (d := some 76) (v := ?v30) rfl rfl (by kernel_rfl) (by kernel_rfl) (by kernel_rfl) (fun _ _ _ h => h) (by rfl) ?y30 hHeld ?r30
          case y30 =>
            intro wS hS
            go_simp
            all_goals with_reducible rfl
          try simp only [Act.put, List.setIfInBounds_toArray, List.set_cons_zero, List.set_cons_succ]
          refine wpAnyH_ready (rs := [2]) (by kernel_rfl) (by simp) ?_
          refine Reg.cons_yes rfl (by rfl) (fun K hK => ?_) ?_
          · go_simp
            have hH := hHeld
            obtain ⟨sB, sb⟩ := hH
            refine (HSz.out _).mono ?_
            rintro e wA ⟨rfl, hb⟩
            refine hK.out _ _ (⟨below_step sB hb, sb.below hb⟩) (fun hHeld => ?_)
            clear hK K sB sb
            try simp only [Act.put, List.setIfInBounds_toArray, List.set_cons_zero, List.set_cons_succ]
            refine Reg.take_yes (i := 3) (d := some 78) (v := ?v31) rfl rfl (by kernel_rfl) (by kernel_rfl) (by kernel_rfl) (fun _ _ _ h => h) (by rfl) ?y31 hHeld ?r31
            case y31 =>
              intro wS hS
              go_simp
              all_goals with_reducible rfl
            try simp only [Act.put, List.setIfInBounds_toArray, List.set_cons_zero, List.set_cons_succ]
            refine Reg.take_yes (i := 4) (d := some 79) (v := ?v32) rfl rfl (by kernel_rfl) (by kernel_rfl) (by kernel_rfl) (fun _ _ _ h => h) (by rfl) ?y32 hHeld ?r32
            case y32 =>
              intro wS hS
              go_simp
              all_goals with_reducible rfl
            try simp only [Act.put, List.setIfInBounds_toArray, List.set_cons_zero, List.set_cons_succ]
            refine Reg.take_no (i := 5) (d := some 80) rfl rfl (by kernel_rfl) (by kernel_rfl) (by kernel_rfl) (fun _ _ _ h => h) (by rfl) hHeld ?_
            try simp only [Act.put, List.setIfInBounds_toArray, List.set_cons_zero, List.set_cons_succ]
            refine Reg.take_no (i := 6) (d := some 81) rfl rfl (by kernel_rfl) (by kernel_rfl) (by kernel_rfl) (fun _ _ _ h => h) (by rfl) hHeld ?_
            try simp only [Act.put, List.setIfInBounds_toArray, List.set_cons_zero, List.set_cons_succ]
            refine Reg.take_no (i := 7) (d := some 82) rfl rfl (by kernel_rfl) (by kernel_rfl) (by kernel_rfl) (fun _ _ _ h => h) (by rfl) hHeld ?_
            try simp only [Act.put, List.setIfInBounds_toArray, List.set_cons_zero, List.set_cons_succ]
            refine Reg.take_no (i := 8) (d := some 83) rfl rfl (by kernel_rfl) (by kernel_rfl) (by kernel_rfl) (fun _ _ _ h => h) (by rfl) hHeld ?_
            try simp only [Act.put, List.setIfInBounds_toArray, List.set_cons_zero, List.set_cons_succ]
            refine Reg.take_no (i := 9) (d := some 84) rfl rfl (by kernel_rfl) (by kernel_rfl) (by kernel_rfl) (fun _ _ _ h => h) (by rfl) hHeld ?_
            try simp only [Act.put, List.setIfInBounds_toArray, List.set_cons_zero, List.set_cons_succ]
            refine Reg.take_no (i := 10) (d := some 85) rfl rfl (by kernel_rfl) (by kernel_rfl) (by kernel_rfl) (fun _ _ _ h => h) (by rfl) hHeld ?_
            try simp only [Act.put, List.setIfInBounds_toArray, List.set_cons_zero, List.set_cons_succ]
            refine Reg.take_no (i := 11) (d := some 86) rfl rfl (by kernel_rfl) (by kernel_rfl) (by kernel_rfl) (fun _ _ _ h => h) (by rfl) hHeld ?_
            try simp only [Act.put, List.setIfInBounds_toArray, List.set_cons_zero, List.set_cons_succ]
            refine Reg.take_no (i := 12) (d := some 87) rfl rfl (by kernel_rfl) (by kernel_rfl) (by kernel_rfl) (fun _ _ _ h => h) (by rfl) hHeld ?_
            try simp only [Act.put, List.setIfInBounds_toArray, List.set_cons_zero, List.set_cons_succ]
            refine Reg.take_no (i := 13) (d := some 88) rfl rfl (by kernel_rfl) (by kernel_rfl) (by kernel_rfl) (fun _ _ _ h => h) (by rfl) hHeld ?_
            try simp only [Act.put, List.setIfInBounds_toArray, List.set_cons_zero, List.set_cons_succ]
            refine Reg.take_yes (i := 14) (d := some 89) (v := ?v33) rfl rfl (by kernel_rfl) (by kernel_rfl) (by kernel_rfl) (fun _ _ _ h => h) (by rfl) ?y33 hHeld ?r33
            case y33 =>
              intro wS hS
              go_simp
              all_goals with_reducible rfl
            try simp only [Act.put, List.setIfInBounds_toArray, List.set_cons_zero, List.set_cons_succ]
            refine Reg.take_yes (i := 15) (d := some 6) (v := ?v34) rfl rfl (by kernel_rfl) (by kernel_rfl) (by kernel_rfl) (fun _ _ _ h => h) (by rfl) ?y34 hHeld ?r34
            case y34 =>
              intro wS hS
              go_simp
              all_goals with_reducible rfl
            try simp only [Act.put, List.setIfInBounds_toArray, List.set_cons_zero, List.set_cons_succ]
            refine wpAnyH_done (by kernel_rfl) ?_ _
            obtain ⟨sB, sb⟩ := hHeld
            go_wp2_with fail
            go_ret
            exact ⟨rfl, sB⟩
          exact AllReadyH.nil
        | true =>
          have HG := Lib.hid (HGb.out rfl)
          have HPB := Lib.hid (HPb.out rfl)
          refine wp_region_held_drew (S := (fun w' => (Below w.heap.size w w') ∧ (Rd w' A n l))) (by kernel_rfl) (⟨eB9.out, eb9.out⟩) (fun hHeld => ?_)
          refine Reg.take_yes (i := 0) (d := some 75) (v := ?v35) rfl rfl (by kernel_rfl) (by kernel_rfl) (by kernel_rfl) (fun _ _ _ h => h) (by rfl) ?y35 hHeld ?r35
          case y35 =>
            intro wS hS
            go_simp
            all_goals with_reducible rfl
          try simp only [Act.put, List.setIfInBounds_toArray, List.set_cons_zero, List.set_cons_succ]
          refine Reg.take_yes (i := 1) (d := some 76) (v := ?v36) rfl rfl (by kernel_rfl) (by kernel_rfl) (by kernel_rfl) (fun _ _ _ h => h) (by rfl) ?y36 hHeld ?r36
          case y36 =>
            intro wS hS
            go_simp
            all_goals with_reducible rfl
          try simp only [Act.put, List.setIfInBounds_toArray, List.set_cons_zero, List.set_cons_succ]
          refine wpAnyH_ready (rs := [2]) (by kernel_rfl) (by simp) ?_
          refine Reg.cons_yes rfl (by rfl) (fun K hK => ?_) ?_
          · go_simp
            have hH := hHeld
            obtain ⟨sB, sb⟩ := hH
            refine (HSz.out _).mono ?_
            rintro e wA ⟨rfl, hb⟩
            refine hK.out _ _ (⟨below_step sB hb, sb.below hb⟩) (fun hHeld => ?_)
            clear hK K sB sb
            try simp only [Act.put, List.setIfInBounds_toArray, List.set_cons_zero, List.set_cons_succ]
            refine Reg.take_yes (i := 3) (d := some 78) (v := ?v37) rfl rfl (by kernel_rfl) (by kernel_rfl) (by kernel_rfl) (fun _ _ _ h => h) (by rfl) ?y37 hHeld ?r37
            case y37 =>
              intro wS hS
              go_simp
              all_goals with_reducible rfl
            try simp only [Act.put, List.setIfInBounds_toArray, List.set_cons_zero, List.set_cons_succ]
            refine Reg.take_yes (i := 4) (d := some 79) (v := ?v38) rfl rfl (by kernel_rfl) (by kernel_rfl) (by kernel_rfl) (fun _ _ _ h => h) (by rfl) ?y38 hHeld ?r38
            case y38 =>
              intro wS hS
              go_simp
              all_goals with_reducible rfl
            try simp only [Act.put, List.setIfInBounds_toArray, List.set_cons_zero, List.set_cons_succ]
            refine Reg.take_yes (i := 5) (d := some 80) (v := ?v39) rfl rfl (by kernel_rfl) (by kernel_rfl) (by kernel_rfl) (fun _ _ _ h => h) (by rfl) ?y39 hHeld ?r39
            case y39 =>
              intro wS hS
              go_simp
              all_goals with_reducible rfl
            try simp only [Act.put, List.setIfInBounds_toArray, List.set_cons_zero, List.set_cons_succ]
            refine Reg.take_yes (i := 7) (d := some 82) (v := ?v40) rfl rfl (by kernel_rfl) (by kernel_rfl) (by kernel_rfl) (fun _ _ _ h => h) (by rfl) ?y40 hHeld ?r40
            case y40 =>
              intro wS hS
              go_simp
              all_goals with_reducible rfl
            try simp only [Act.put, List.setIfInBounds_toArray, List.set_cons_zero, List.set_cons_succ]
            refine Reg.take_yes (i := 8) (d := some 83) (v := ?v41) rfl rfl (by kernel_rfl) (by kernel_rfl) (by kernel_rfl) (fun _ _ _ h => h) (by rfl) ?y41 hHeld ?r41
            case y41 =>
              intro wS hS
              go_simp
              all_goals with_reducible rfl
            try simp only [Act.put, List.setIfInBounds_toArray, List.set_cons_zero, List.set_cons_succ]
            refine Reg.take_yes (i := 11) (d := some 86) (v := ?v42) rfl rfl (by kernel_rfl) (by kernel_rfl) (by kernel_rfl) (fun _ _ _ h => h) (by rfl) ?y42 hHeld ?r42
            case y42 =>
              intro wS hS
              go_simp
              all_goals with_reducible rfl
            try simp only [Act.put, List.setIfInBounds_toArray, List.set_cons_zero, List.set_cons_succ]
            refine Reg.take_yes (i := 12) (d := some 87) (v := ?v43) rfl rfl (by kernel_rfl) (by kernel_rfl) (by kernel_rfl) (fun _ _ _ h => h) (by rfl) ?y43 hHeld ?r43
            case y43 =>
              intro wS hS
              obtain ⟨sB, sb⟩ := hS
              have hc := str_of sb cap
              go_simp
              all_goals with_reducible rfl
            try simp only [Act.put, List.setIfInBounds_toArray, List.set_cons_zero, List.set_cons_succ]
            refine wpAnyH_ready (rs := [6]) (by kernel_rfl) (by simp) ?_
            refine Reg.cons_yes rfl (by rfl) (fun K hK => ?_) ?_
            · go_simp
              have hH := hHeld
              obtain ⟨sB, sb⟩ := hH
              refine (HG.out _ sb).mono ?_
              rintro e wA ⟨rfl, hb⟩
              refine hK.out _ _ (⟨below_step sB hb, sb.below hb⟩) (fun hHeld => ?_)
              clear hK K sB sb
              try simp only [Act.put, List.setIfInBounds_toArray, List.set_cons_zero, List.set_cons_succ]
              refine wpAnyH_ready (rs := [9]) (by kernel_rfl) (by simp) ?_
              refine Reg.cons_yes rfl (by rfl) (fun K hK => ?_) ?_
              · go_simp
                have hH := hHeld
                obtain ⟨sB, sb⟩ := hH
                refine (HPB.out _).mono ?_
                rintro e wA ⟨r, rfl, hor, hb⟩
                obtain ⟨Ad, cd, rfl, _, hrr⟩ := Own.slice hor
                rw [HLn.out] at hrr ⊢
                clear hor
                refine hK.out _ _ (⟨below_step sB hb, sb.below hb⟩) (fun hHeld => ?_)
                have hHeld := (show (fun w' => (Rd w' Ad n (l)) ∧ (Below w.heap.size w w') ∧ (Rd w' A n l)) _ from ⟨hrr, hHeld⟩)
                refine Reg.imp (S' := (fun w' => (Rd w' Ad n (l)) ∧ (Below w.heap.size w w') ∧ (Rd w' A n l))) (fun _ hh => hh.2) _ _ _ _ ?_
                clear hK K sB sb
                try simp only [Act.put, List.setIfInBounds_toArray, List.set_cons_zero, List.set_cons_succ]
                refine Reg.take_yes (i := 10) (d := some 85) (v := ?v44) rfl rfl (by kernel_rfl) (by kernel_rfl) (by kernel_rfl) (fun _ _ _ h => h) (by rfl) ?y44 hHeld ?r44
                case y44 =>
                  intro wS hS
                  obtain ⟨sd, sB, sb⟩ := hS
                  have hc := str_of sd cd
                  go_simp
                  all_goals with_reducible rfl
                try simp only [Act.put, List.setIfInBounds_toArray, List.set_cons_zero, List.set_cons_succ]
                refine Reg.take_yes (i := 13) (d := some 88) (v := ?v45) rfl rfl (by kernel_rfl) (by kernel_rfl) (by kernel_rfl) (fun _ _ _ h => h) (by rfl) ?y45 hHeld ?r45
                case y45 =>
                  intro wS hS
                  go_simp
                  all_goals with_reducible rfl
                try simp only [Act.put, List.setIfInBounds_toArray, List.set_cons_zero, List.set_cons_succ]
                refine Reg.take_yes (i := 14) (d := some 89) (v := ?v46) rfl rfl (by kernel_rfl) (by kernel_rfl) (by kernel_rfl) (fun _ _ _ h => h) (by rfl) ?y46 hHeld ?r46
                case y46 =>
                  intro wS hS
                  go_simp
                  all_goals with_reducible rfl
                try simp only [Act.put, List.setIfInBounds_toArray, List.set_cons_zero, List.set_cons_succ]
                refine Reg.take_yes (i := 15) (d := some 6) (v := ?v47) rfl rfl (by kernel_rfl) (by kernel_rfl) (by kernel_rfl) (fun _ _ _ h => h) (by rfl) ?y47 hHeld ?r47
                case y47 =>
                  intro wS hS
                  go_simp
                  all_goals with_reducible rfl
                try simp only [Act.put, List.setIfInBounds_toArray, List.set_cons_zero, List.set_cons_succ]
                refine wpAnyH_done (by kernel_rfl) ?_ _
                obtain ⟨sd, sB, sb⟩ := hHeld
                go_wp2_with fail
                go_ret
                exact ⟨rfl, sB⟩
              exact AllReadyH.nil
            exact AllReadyH.nil
          exact AllReadyH.nil
      exact AllReadyH.nil
    exact AllReadyH.nil
  exact AllReadyH.nil
set_option maxRecDepth 100000 in
set_option maxHeartbeats 4000000 in
theorem walk2 (v x hi y a : Int) (vn hn : Nat) (z : Bool) (A : Option Addr) (n cap : Nat) (l : List Nat) (w : World) (h : Rd w A n l) (hc : n ≤ cap) (hn8 : n ≤ 8)
    (HP0 : ∀ W, Calls Try.prog 8 #[.int .u8 a] W (Ans (.int .i64 2) W))
    (HPut0 : ∀ W, Calls Try.prog 9 #[.int .u64 v, .int .i64 2] W (Puts (bys vn 2) W))
    (HLow0 : ∀ W, Calls Try.prog 11 #[.int .u64 v, .int .i64 2] W (Ans (.int .u64 x) W))
    (HGet0 : ∀ W A c, Rd W A 2 (bys vn 2) → 2 ≤ c → Calls Try.prog 13 #[.slice A 2 c] W (Ans (.int .u64 x) W))
    (HSz0 : ∀ W, Calls Try.prog 16 #[.int .i64 (n : Int)] W (Ans (.bool z) W))
    (HGb0 : z = true → ∀ W, Rd W A n l → Calls Try.prog 13 #[.slice A n cap] W (Ans (.int .u64 y) W))
    (HPb0 : z = true → ∀ W, Calls Try.prog 9 #[.int .u64 y, .int .i64 (n : Int)] W (Puts l W))
    (HPuta0 : ∀ W, Calls Try.prog 9 #[.int .u64 v, .int .i64 4] W (Puts (bys vn 4) W))
    (HPutb0 : ∀ W, Calls Try.prog 9 #[.int .u64 hi, .int .i64 2] W (Puts (bys hn 2) W))
    (hst : str (bys vn 4) = str (bys vn 2) ++ str (bys hn 2))
    (hv0 : 0 ≤ v) (hx0 : 0 ≤ x) (hj : v / 65536 = hi) (hk : x / 65536 = 0) :
    Calls Try.prog 4 #[.int .u64 v, .int .u8 a, .slice A n cap] w fun e w' => e = .returned (.bool true) ∧ Below w.heap.size w w' := by
  have HP := Lib.hid HP0
  have HPut := Lib.hid HPut0
  have HLow := Lib.hid HLow0
  have HGet := Lib.hid HGet0
  have HSz := Lib.hid HSz0
  have HGb := Lib.hid HGb0
  have HPb := Lib.hid HPb0
  have HPuta := Lib.hid HPuta0
  have HPutb := Lib.hid HPutb0
  have HST := Lib.hid hst
  clear hst
  have HR := Lib.hid h
  have HLn := Lib.hid h.len
  have hid0 := Lib.hid (Below.refl w.heap.size w)
  clear h HP0 HPut0 HLow0 HGet0 HSz0 HGb0 HPb0 HPuta0 HPutb0
  go_enter Try.func4, Try.ntmps4
  go_wp2_with fail
  refine (awake_says _).mono ?_
  rintro e w1 ⟨rfl, hb⟩
  have hid1 := Lib.hid hb
  clear hb hid0
  go_wp2_with fail
  refine (HP.out _).mono ?_
  rintro e w2 ⟨rfl, hb⟩
  have hid2 := Lib.hid (below_step hid1.out hb)
  clear hb hid1
  go_wp2_with fail
  refine (HPut.out _).mono ?_
  rintro e w3 ⟨vp, rfl, hop, hb⟩
  obtain ⟨Ap, cp, rfl, hcp, hrp⟩ := Own.slice hop
  rw [bys_len] at hcp hrp ⊢
  have HRp := Lib.hid hrp
  have hid3 := Lib.hid (below_step hid2.out hb)
  clear hb hid2 hop hrp
  go_wp2_with fail
  refine (HGet.out _ _ _ HRp.out hcp).mono ?_
  rintro e w4 ⟨rfl, hb⟩
  have HRp4 := Lib.hid (HRp.out.below hb)
  have hid4 := Lib.hid (below_step hid3.out hb)
  clear hb hid3 HRp
  go_wp2_with fail
  refine (HLow.out _).mono ?_
  rintro e w5 ⟨rfl, hb⟩
  have HRp5 := Lib.hid (HRp4.out.below hb)
  have hid5 := Lib.hid (below_step hid4.out hb)
  clear hb hid4 HRp4
  go_wp2_with fail
  have eB := Lib.hid hid5.out.drew
  have ep := Lib.hid (HRp5.out.below (Below.refl _ _).drew)
  have eb := Lib.hid (HR.out.below eB.out)
  clear hid5 HRp5
  have hwi4 : IntKind.i64.wrap 4 = 4 := by decide
  have hwu4 : IntKind.u64.wrap 4 = 4 := by decide
  have hwi16 : IntKind.i64.wrap 16 = 16 := by decide
  have hwu16 : IntKind.u64.wrap 16 = 16 := by decide
  refine wp_region_held_drew (S := (fun w' => (Below w.heap.size w w') ∧ (Rd w' A n l) ∧ (Rd w' Ap 2 (bys vn 2)))) (by kernel_rfl) (⟨eB.out, eb.out, ep.out⟩) (fun hHeld => ?_)
  refine Reg.take_yes (i := 0) (d := some 44) (v := ?v48) rfl rfl (by kernel_rfl) (by kernel_rfl) (by kernel_rfl) (fun _ _ _ h => h) (by rfl) ?y48 hHeld ?r48
  case y48 =>
    intro wS hS
    go_simp
    all_goals with_reducible rfl
  try simp only [Act.put, List.setIfInBounds_toArray, List.set_cons_zero, List.set_cons_succ]
  refine Reg.take_yes (i := 1) (d := some 45) (v := ?v49) rfl rfl (by kernel_rfl) (by kernel_rfl) (by kernel_rfl) (fun _ _ _ h => h) (by rfl) ?y49 hHeld ?r49
  case y49 =>
    intro wS hS
    go_simp
    all_goals with_reducible rfl
  try simp only [Act.put, List.setIfInBounds_toArray, List.set_cons_zero, List.set_cons_succ]
  refine Reg.take_yes (i := 2) (d := some 46) (v := ?v50) rfl rfl (by kernel_rfl) (by kernel_rfl) (by kernel_rfl) (fun _ _ _ h => h) (by rfl) ?y50 hHeld ?r50
  case y50 =>
    intro wS hS
    go_simp
    all_goals with_reducible rfl
  try simp only [Act.put, List.setIfInBounds_toArray, List.set_cons_zero, List.set_cons_succ]
  refine Reg.take_yes (i := 3) (d := some 47) (v := ?v51) rfl rfl (by kernel_rfl) (by kernel_rfl) (by kernel_rfl) (fun _ _ _ h => h) (by rfl) ?y51 hHeld ?r51
  case y51 =>
    intro wS hS
    go_simp
    all_goals with_reducible rfl
  try simp only [Act.put, List.setIfInBounds_toArray, List.set_cons_zero, List.set_cons_succ]
  refine Reg.take_yes (i := 4) (d := some 48) (v := ?v52) rfl rfl (by kernel_rfl) (by kernel_rfl) (by kernel_rfl) (fun _ _ _ h => h) (by rfl) ?y52 hHeld ?r52
  case y52 =>
    intro wS hS
    go_simp
    all_goals with_reducible rfl
  try simp only [Act.put, List.setIfInBounds_toArray, List.set_cons_zero, List.set_cons_succ]
  refine Reg.take_yes (i := 5) (d := some 49) (v := ?v53) rfl rfl (by kernel_rfl) (by kernel_rfl) (by kernel_rfl) (fun _ _ _ h => h) (by rfl) ?y53 hHeld ?r53
  case y53 =>
    intro wS hS
    go_simp
    all_goals with_reducible rfl
  try simp only [Act.put, List.setIfInBounds_toArray, List.set_cons_zero, List.set_cons_succ]
  refine Reg.take_yes (i := 8) (d := some 52) (v := ?v54) rfl rfl (by kernel_rfl) (by kernel_rfl) (by kernel_rfl) (fun _ _ _ h => h) (by rfl) ?y54 hHeld ?r54
  case y54 =>
    intro wS hS
    go_simp
    all_goals with_reducible rfl
  try simp only [Act.put, List.setIfInBounds_toArray, List.set_cons_zero, List.set_cons_succ]
  refine Reg.take_yes (i := 9) (d := some 53) (v := ?v55) rfl rfl (by kernel_rfl) (by kernel_rfl) (by kernel_rfl) (fun _ _ _ h => h) (by rfl) ?y55 hHeld ?r55
  case y55 =>
    intro wS hS
    obtain ⟨sB, sb, sp⟩ := hS
    have hc := str_of sp cp
    go_simp
    all_goals with_reducible rfl
  try simp only [Act.put, List.setIfInBounds_toArray, List.set_cons_zero, List.set_cons_succ]
  refine Reg.take_yes (i := 10) (d := some 54) (v := ?v56) rfl rfl (by kernel_rfl) (by kernel_rfl) (by kernel_rfl) (fun _ _ _ h => h) (by rfl) ?y56 hHeld ?r56
  case y56 =>
    intro wS hS
    go_simp
    all_goals with_reducible rfl
  try simp only [Act.put, List.setIfInBounds_toArray, List.set_cons_zero, List.set_cons_succ]
  refine Reg.take_yes (i := 11) (d := some 55) (v := ?v57) rfl rfl (by kernel_rfl) (by kernel_rfl) (by kernel_rfl) (fun _ _ _ h => h) (by rfl) ?y57 hHeld ?r57
  case y57 =>
    intro wS hS
    go_simp
    all_goals with_reducible rfl
  try simp only [Act.put, List.setIfInBounds_toArray, List.set_cons_zero, List.set_cons_succ]
  refine Reg.take_yes (i := 12) (d := some 56) (v := ?v58) rfl rfl (by kernel_rfl) (by kernel_rfl) (by kernel_rfl) (fun _ _ _ h => h) (by rfl) ?y58 hHeld ?r58
  case y58 =>
    intro wS hS
    go_simp
    all_goals with_reducible rfl
  try simp only [Act.put, List.setIfInBounds_toArray, List.set_cons_zero, List.set_cons_succ]
  refine Reg.take_yes (i := 13) (d := some 57) (v := ?v59) rfl rfl (by kernel_rfl) (by kernel_rfl) (by kernel_rfl) (fun _ _ _ h => h) (by rfl) ?y59 hHeld ?r59
  case y59 =>
    intro wS hS
    go_simp
    all_goals with_reducible rfl
  try simp only [Act.put, List.setIfInBounds_toArray, List.set_cons_zero, List.set_cons_succ]
  refine Reg.take_yes (i := 14) (d := some 58) (v := ?v60) rfl rfl (by kernel_rfl) (by kernel_rfl) (by kernel_rfl) (fun _ _ _ h => h) (by rfl) ?y60 hHeld ?r60
  case y60 =>
    intro wS hS
    go_simp
    all_goals with_reducible rfl
  try simp only [Act.put, List.setIfInBounds_toArray, List.set_cons_zero, List.set_cons_succ]
  refine Reg.take_yes (i := 15) (d := some 59) (v := ?v61) rfl rfl (by kernel_rfl) (by kernel_rfl) (by kernel_rfl) (fun _ _ _ h => h) (by rfl) ?y61 hHeld ?r61
  case y61 =>
    intro wS hS
    go_simp
    all_goals with_reducible rfl
  try simp only [Act.put, List.setIfInBounds_toArray, List.set_cons_zero, List.set_cons_succ]
  refine wpAnyH_ready (rs := [6]) (by kernel_rfl) (by simp) ?_
  refine Reg.cons_yes rfl (by rfl) (fun K hK => ?_) ?_
  · go_simp
    have hH := hHeld
    obtain ⟨sB, sb, sp⟩ := hH
    refine (HPuta.out _).mono ?_
    rintro e wA ⟨r, rfl, hor, hb⟩
    obtain ⟨Aa, ca, rfl, _, hrr⟩ := Own.slice hor
    rw [bys_len] at hrr ⊢
    clear hor
    refine hK.out _ _ (⟨below_step sB hb, sb.below hb, sp.below hb⟩) (fun hHeld => ?_)
    have hHeld := (show (fun w' => (Rd w' Aa 4 (bys vn 4)) ∧ (Below w.heap.size w w') ∧ (Rd w' A n l) ∧ (Rd w' Ap 2 (bys vn 2))) _ from ⟨hrr, hHeld⟩)
    refine Reg.imp (S' := (fun w' => (Rd w' Aa 4 (bys vn 4)) ∧ (Below w.heap.size w w') ∧ (Rd w' A n l) ∧ (Rd w' Ap 2 (bys vn 2)))) (fun _ hh => hh.2) _ _ _ _ ?_
    clear hK K sB sb sp
    try simp only [Act.put, List.setIfInBounds_toArray, List.set_cons_zero, List.set_cons_succ]
    refine Reg.take_yes (i := 7) (d := some 51) (v := ?v62) rfl rfl (by kernel_rfl) (by kernel_rfl) (by kernel_rfl) (fun _ _ _ h => h) (by rfl) ?y62 hHeld ?r62
    case y62 =>
      intro wS hS
      obtain ⟨sa, sB, sb, sp⟩ := hS
      have hc := str_of sa ca
      rw [HST.out] at hc
      go_simp
      all_goals with_reducible rfl
    try simp only [Act.put, List.setIfInBounds_toArray, List.set_cons_zero, List.set_cons_succ]
    refine wpAnyH_ready (rs := [16]) (by kernel_rfl) (by simp) ?_
    refine Reg.cons_yes rfl (by rfl) (fun K hK => ?_) ?_
    · go_simp
      have hH := hHeld
      obtain ⟨sa, sB, sb, sp⟩ := hH
      refine (HPutb.out _).mono ?_
      rintro e wA ⟨r, rfl, hor, hb⟩
      obtain ⟨Ac, cc, rfl, _, hrr⟩ := Own.slice hor
      rw [bys_len] at hrr ⊢
      clear hor
      refine hK.out _ _ (⟨sa.below hb, below_step sB hb, sb.below hb, sp.below hb⟩) (fun hHeld => ?_)
      have hHeld := (show (fun w' => (Rd w' Ac 2 (bys hn 2)) ∧ (Rd w' Aa 4 (bys vn 4)) ∧ (Below w.heap.size w w') ∧ (Rd w' A n l) ∧ (Rd w' Ap 2 (bys vn 2))) _ from ⟨hrr, hHeld⟩)
      refine Reg.imp (S' := (fun w' => (Rd w' Ac 2 (bys hn 2)) ∧ (Rd w' Aa 4 (bys vn 4)) ∧ (Below w.heap.size w w') ∧ (Rd w' A n l) ∧ (Rd w' Ap 2 (bys vn 2)))) (fun _ hh => hh.2) _ _ _ _ ?_
      clear hK K sa sB sb sp
      try simp only [Act.put, List.setIfInBounds_toArray, List.set_cons_zero, List.set_cons_succ]
      refine Reg.take_yes (i := 17) (d := some 61) (v := ?v63) rfl rfl (by kernel_rfl) (by kernel_rfl) (by kernel_rfl) (fun _ _ _ h => h) (by rfl) ?y63 hHeld ?r63
      case y63 =>
        intro wS hS
        obtain ⟨sc, sa, sB, sb, sp⟩ := hS
        have hc := str_of sc cc
        go_simp
        all_goals with_reducible rfl
      try simp only [Act.put, List.setIfInBounds_toArray, List.set_cons_zero, List.set_cons_succ]
      refine Reg.take_yes (i := 18) (d := some 62) (v := ?v64) rfl rfl (by kernel_rfl) (by kernel_rfl) (by kernel_rfl) (fun _ _ _ h => h) (by rfl) ?y64 hHeld ?r64
      case y64 =>
        intro wS hS
        obtain ⟨sc, sa, sB, sb, sp⟩ := hS
        have hz1 := str_size (bys vn 2)
        have hz2 := str_size (bys hn 2)
        rw [bys_len] at hz1 hz2
        have hz3 := fun w => run_string_add_sum (P := Try.prog) w (str (bys vn 2)) (str (bys hn 2)) (by omega)
        go_simp
        all_goals with_reducible rfl
      try simp only [Act.put, List.setIfInBounds_toArray, List.set_cons_zero, List.set_cons_succ]
      refine Reg.take_yes (i := 19) (d := some 63) (v := ?v65) rfl rfl (by kernel_rfl) (by kernel_rfl) (by kernel_rfl) (fun _ _ _ h => h) (by rfl) ?y65 hHeld ?r65
      case y65 =>
        intro wS hS
        go_simp
        all_goals with_reducible rfl
      try simp only [Act.put, List.setIfInBounds_toArray, List.set_cons_zero, List.set_cons_succ]
      refine Reg.take_yes (i := 20) (d := some 64) (v := ?v66) rfl rfl (by kernel_rfl) (by kernel_rfl) (by kernel_rfl) (fun _ _ _ h => h) (by rfl) ?y66 hHeld ?r66
      case y66 =>
        intro wS hS
        go_simp
        all_goals with_reducible rfl
      try simp only [Act.put, List.setIfInBounds_toArray, List.set_cons_zero, List.set_cons_succ]
      refine Reg.take_yes (i := 21) (d := some 65) (v := ?v67) rfl rfl (by kernel_rfl) (by kernel_rfl) (by kernel_rfl) (fun _ _ _ h => h) (by rfl) ?y67 hHeld ?r67
      case y67 =>
        intro wS hS
        go_simp
        all_goals with_reducible rfl
      try simp only [Act.put, List.setIfInBounds_toArray, List.set_cons_zero, List.set_cons_succ]
      refine Reg.take_yes (i := 22) (d := some 66) (v := ?v68) rfl rfl (by kernel_rfl) (by kernel_rfl) (by kernel_rfl) (fun _ _ _ h => h) (by rfl) ?y68 hHeld ?r68
      case y68 =>
        intro wS hS
        go_simp
        all_goals with_reducible rfl
      try simp only [Act.put, List.setIfInBounds_toArray, List.set_cons_zero, List.set_cons_succ]
      refine Reg.take_yes (i := 24) (d := some 68) (v := ?v69) rfl rfl (by kernel_rfl) (by kernel_rfl) (by kernel_rfl) (fun _ _ _ h => h) (by rfl) ?y69 hHeld ?r69
      case y69 =>
        intro wS hS
        go_simp
        all_goals with_reducible rfl
      try simp only [Act.put, List.setIfInBounds_toArray, List.set_cons_zero, List.set_cons_succ]
      refine Reg.take_yes (i := 25) (d := some 69) (v := ?v70) rfl rfl (by kernel_rfl) (by kernel_rfl) (by kernel_rfl) (fun _ _ _ h => h) (by rfl) ?y70 hHeld ?r70
      case y70 =>
        intro wS hS
        go_simp
        all_goals with_reducible rfl
      try simp only [Act.put, List.setIfInBounds_toArray, List.set_cons_zero, List.set_cons_succ]
      refine Reg.take_yes (i := 26) (d := some 70) (v := ?v71) rfl rfl (by kernel_rfl) (by kernel_rfl) (by kernel_rfl) (fun _ _ _ h => h) (by rfl) ?y71 hHeld ?r71
      case y71 =>
        intro wS hS
        go_simp
        all_goals with_reducible rfl
      try simp only [Act.put, List.setIfInBounds_toArray, List.set_cons_zero, List.set_cons_succ]
      refine wpAnyH_ready (rs := [23]) (by kernel_rfl) (by simp) ?_
      refine Reg.cons_yes rfl (by rfl) (fun K hK => ?_) ?_
      · go_simp
        have hH := hHeld
        obtain ⟨sc, sa, sB, sb, sp⟩ := hH
        refine (HLow.out _).mono ?_
        rintro e wA ⟨rfl, hb⟩
        refine hK.out _ _ (⟨sc.below hb, sa.below hb, below_step sB hb, sb.below hb, sp.below hb⟩) (fun hHeld => ?_)
        clear hK K sc sa sB sb sp
        try simp only [Act.put, List.setIfInBounds_toArray, List.set_cons_zero, List.set_cons_succ]
        refine Reg.take_yes (i := 27) (d := some 71) (v := ?v72) rfl rfl (by kernel_rfl) (by kernel_rfl) (by kernel_rfl) (fun _ _ _ h => h) (by rfl) ?y72 hHeld ?r72
        case y72 =>
          intro wS hS
          go_simp
          all_goals with_reducible rfl
        try simp only [Act.put, List.setIfInBounds_toArray, List.set_cons_zero, List.set_cons_succ]
        refine Reg.take_yes (i := 28) (d := some 72) (v := ?v73) rfl rfl (by kernel_rfl) (by kernel_rfl) (by kernel_rfl) (fun _ _ _ h => h) (by rfl) ?y73 hHeld ?r73
        case y73 =>
          intro wS hS
          go_simp
          all_goals with_reducible rfl
        try simp only [Act.put, List.setIfInBounds_toArray, List.set_cons_zero, List.set_cons_succ]
        refine Reg.take_yes (i := 29) (d := some 73) (v := ?v74) rfl rfl (by kernel_rfl) (by kernel_rfl) (by kernel_rfl) (fun _ _ _ h => h) (by rfl) ?y74 hHeld ?r74
        case y74 =>
          intro wS hS
          go_simp
          all_goals with_reducible rfl
        try simp only [Act.put, List.setIfInBounds_toArray, List.set_cons_zero, List.set_cons_succ]
        refine Reg.take_yes (i := 30) (d := some 74) (v := ?v75) rfl rfl (by kernel_rfl) (by kernel_rfl) (by kernel_rfl) (fun _ _ _ h => h) (by rfl) ?y75 hHeld ?r75
        case y75 =>
          intro wS hS
          go_simp
          all_goals with_reducible rfl
        try simp only [Act.put, List.setIfInBounds_toArray, List.set_cons_zero, List.set_cons_succ]
        refine wpAnyH_done (by kernel_rfl) ?_ _
        obtain ⟨sc, sa, sB, sb, sp⟩ := hHeld
        go_wp2_with fail
        have eB9 := Lib.hid sB.drew
        have eb9 := Lib.hid (sb.below (Below.refl _ _).drew)
        clear sB sb sp eB eb ep
        cases z with
        | false =>
          refine wp_region_held_drew (S := (fun w' => (Below w.heap.size w w') ∧ (Rd w' A n l))) (by kernel_rfl) (⟨eB9.out, eb9.out⟩) (fun hHeld => ?_)
          refine Reg.take_yes (i := 0) (d := some 75) (v := ?v76) rfl rfl (by kernel_rfl) (by kernel_rfl) (by kernel_rfl) (fun _ _ _ h => h) (by rfl) ?y76 hHeld ?r76
          case y76 =>
            intro wS hS
            go_simp
            all_goals with_reducible rfl
          try simp only [Act.put, List.setIfInBounds_toArray, List.set_cons_zero, List.set_cons_succ]
          refine Reg.take_yes (i := 1) (d := some 76) (v := ?v77) rfl rfl (by kernel_rfl) (by kernel_rfl) (by kernel_rfl) (fun _ _ _ h => h) (by rfl) ?y77 hHeld ?r77
          case y77 =>
            intro wS hS
            go_simp
            all_goals with_reducible rfl
          try simp only [Act.put, List.setIfInBounds_toArray, List.set_cons_zero, List.set_cons_succ]
          refine wpAnyH_ready (rs := [2]) (by kernel_rfl) (by simp) ?_
          refine Reg.cons_yes rfl (by rfl) (fun K hK => ?_) ?_
          · go_simp
            have hH := hHeld
            obtain ⟨sB, sb⟩ := hH
            refine (HSz.out _).mono ?_
            rintro e wA ⟨rfl, hb⟩
            refine hK.out _ _ (⟨below_step sB hb, sb.below hb⟩) (fun hHeld => ?_)
            clear hK K sB sb
            try simp only [Act.put, List.setIfInBounds_toArray, List.set_cons_zero, List.set_cons_succ]
            refine Reg.take_yes (i := 3) (d := some 78) (v := ?v78) rfl rfl (by kernel_rfl) (by kernel_rfl) (by kernel_rfl) (fun _ _ _ h => h) (by rfl) ?y78 hHeld ?r78
            case y78 =>
              intro wS hS
              go_simp
              all_goals with_reducible rfl
            try simp only [Act.put, List.setIfInBounds_toArray, List.set_cons_zero, List.set_cons_succ]
            refine Reg.take_yes (i := 4) (d := some 79) (v := ?v79) rfl rfl (by kernel_rfl) (by kernel_rfl) (by kernel_rfl) (fun _ _ _ h => h) (by rfl) ?y79 hHeld ?r79
            case y79 =>
              intro wS hS
              go_simp
              all_goals with_reducible rfl
            try simp only [Act.put, List.setIfInBounds_toArray, List.set_cons_zero, List.set_cons_succ]
            refine Reg.take_no (i := 5) (d := some 80) rfl rfl (by kernel_rfl) (by kernel_rfl) (by kernel_rfl) (fun _ _ _ h => h) (by rfl) hHeld ?_
            try simp only [Act.put, List.setIfInBounds_toArray, List.set_cons_zero, List.set_cons_succ]
            refine Reg.take_no (i := 6) (d := some 81) rfl rfl (by kernel_rfl) (by kernel_rfl) (by kernel_rfl) (fun _ _ _ h => h) (by rfl) hHeld ?_
            try simp only [Act.put, List.setIfInBounds_toArray, List.set_cons_zero, List.set_cons_succ]
            refine Reg.take_no (i := 7) (d := some 82) rfl rfl (by kernel_rfl) (by kernel_rfl) (by kernel_rfl) (fun _ _ _ h => h) (by rfl) hHeld ?_
            try simp only [Act.put, List.setIfInBounds_toArray, List.set_cons_zero, List.set_cons_succ]
            refine Reg.take_no (i := 8) (d := some 83) rfl rfl (by kernel_rfl) (by kernel_rfl) (by kernel_rfl) (fun _ _ _ h => h) (by rfl) hHeld ?_
            try simp only [Act.put, List.setIfInBounds_toArray, List.set_cons_zero, List.set_cons_succ]
            refine Reg.take_no (i := 9) (d := some 84) rfl rfl (by kernel_rfl) (by kernel_rfl) (by kernel_rfl) (fun _ _ _ h => h) (by rfl) hHeld ?_
            try simp only [Act.put, List.setIfInBounds_toArray, List.set_cons_zero, List.set_cons_succ]
            refine Reg.take_no (i := 10) (d := some 85) rfl rfl (by kernel_rfl) (by kernel_rfl) (by kernel_rfl) (fun _ _ _ h => h) (by rfl) hHeld ?_
            try simp only [Act.put, List.setIfInBounds_toArray, List.set_cons_zero, List.set_cons_succ]
            refine Reg.take_no (i := 11) (d := some 86) rfl rfl (by kernel_rfl) (by kernel_rfl) (by kernel_rfl) (fun _ _ _ h => h) (by rfl) hHeld ?_
            try simp only [Act.put, List.setIfInBounds_toArray, List.set_cons_zero, List.set_cons_succ]
            refine Reg.take_no (i := 12) (d := some 87) rfl rfl (by kernel_rfl) (by kernel_rfl) (by kernel_rfl) (fun _ _ _ h => h) (by rfl) hHeld ?_
            try simp only [Act.put, List.setIfInBounds_toArray, List.set_cons_zero, List.set_cons_succ]
            refine Reg.take_no (i := 13) (d := some 88) rfl rfl (by kernel_rfl) (by kernel_rfl) (by kernel_rfl) (fun _ _ _ h => h) (by rfl) hHeld ?_
            try simp only [Act.put, List.setIfInBounds_toArray, List.set_cons_zero, List.set_cons_succ]
            refine Reg.take_yes (i := 14) (d := some 89) (v := ?v80) rfl rfl (by kernel_rfl) (by kernel_rfl) (by kernel_rfl) (fun _ _ _ h => h) (by rfl) ?y80 hHeld ?r80
            case y80 =>
              intro wS hS
              go_simp
              all_goals with_reducible rfl
            try simp only [Act.put, List.setIfInBounds_toArray, List.set_cons_zero, List.set_cons_succ]
            refine Reg.take_yes (i := 15) (d := some 6) (v := ?v81) rfl rfl (by kernel_rfl) (by kernel_rfl) (by kernel_rfl) (fun _ _ _ h => h) (by rfl) ?y81 hHeld ?r81
            case y81 =>
              intro wS hS
              go_simp
              all_goals with_reducible rfl
            try simp only [Act.put, List.setIfInBounds_toArray, List.set_cons_zero, List.set_cons_succ]
            refine wpAnyH_done (by kernel_rfl) ?_ _
            obtain ⟨sB, sb⟩ := hHeld
            go_wp2_with fail
            go_ret
            exact ⟨rfl, sB⟩
          exact AllReadyH.nil
        | true =>
          have HG := Lib.hid (HGb.out rfl)
          have HPB := Lib.hid (HPb.out rfl)
          refine wp_region_held_drew (S := (fun w' => (Below w.heap.size w w') ∧ (Rd w' A n l))) (by kernel_rfl) (⟨eB9.out, eb9.out⟩) (fun hHeld => ?_)
          refine Reg.take_yes (i := 0) (d := some 75) (v := ?v82) rfl rfl (by kernel_rfl) (by kernel_rfl) (by kernel_rfl) (fun _ _ _ h => h) (by rfl) ?y82 hHeld ?r82
          case y82 =>
            intro wS hS
            go_simp
            all_goals with_reducible rfl
          try simp only [Act.put, List.setIfInBounds_toArray, List.set_cons_zero, List.set_cons_succ]
          refine Reg.take_yes (i := 1) (d := some 76) (v := ?v83) rfl rfl (by kernel_rfl) (by kernel_rfl) (by kernel_rfl) (fun _ _ _ h => h) (by rfl) ?y83 hHeld ?r83
          case y83 =>
            intro wS hS
            go_simp
            all_goals with_reducible rfl
          try simp only [Act.put, List.setIfInBounds_toArray, List.set_cons_zero, List.set_cons_succ]
          refine wpAnyH_ready (rs := [2]) (by kernel_rfl) (by simp) ?_
          refine Reg.cons_yes rfl (by rfl) (fun K hK => ?_) ?_
          · go_simp
            have hH := hHeld
            obtain ⟨sB, sb⟩ := hH
            refine (HSz.out _).mono ?_
            rintro e wA ⟨rfl, hb⟩
            refine hK.out _ _ (⟨below_step sB hb, sb.below hb⟩) (fun hHeld => ?_)
            clear hK K sB sb
            try simp only [Act.put, List.setIfInBounds_toArray, List.set_cons_zero, List.set_cons_succ]
            refine Reg.take_yes (i := 3) (d := some 78) (v := ?v84) rfl rfl (by kernel_rfl) (by kernel_rfl) (by kernel_rfl) (fun _ _ _ h => h) (by rfl) ?y84 hHeld ?r84
            case y84 =>
              intro wS hS
              go_simp
              all_goals with_reducible rfl
            try simp only [Act.put, List.setIfInBounds_toArray, List.set_cons_zero, List.set_cons_succ]
            refine Reg.take_yes (i := 4) (d := some 79) (v := ?v85) rfl rfl (by kernel_rfl) (by kernel_rfl) (by kernel_rfl) (fun _ _ _ h => h) (by rfl) ?y85 hHeld ?r85
            case y85 =>
              intro wS hS
              go_simp
              all_goals with_reducible rfl
            try simp only [Act.put, List.setIfInBounds_toArray, List.set_cons_zero, List.set_cons_succ]
            refine Reg.take_yes (i := 5) (d := some 80) (v := ?v86) rfl rfl (by kernel_rfl) (by kernel_rfl) (by kernel_rfl) (fun _ _ _ h => h) (by rfl) ?y86 hHeld ?r86
            case y86 =>
              intro wS hS
              go_simp
              all_goals with_reducible rfl
            try simp only [Act.put, List.setIfInBounds_toArray, List.set_cons_zero, List.set_cons_succ]
            refine Reg.take_yes (i := 7) (d := some 82) (v := ?v87) rfl rfl (by kernel_rfl) (by kernel_rfl) (by kernel_rfl) (fun _ _ _ h => h) (by rfl) ?y87 hHeld ?r87
            case y87 =>
              intro wS hS
              go_simp
              all_goals with_reducible rfl
            try simp only [Act.put, List.setIfInBounds_toArray, List.set_cons_zero, List.set_cons_succ]
            refine Reg.take_yes (i := 8) (d := some 83) (v := ?v88) rfl rfl (by kernel_rfl) (by kernel_rfl) (by kernel_rfl) (fun _ _ _ h => h) (by rfl) ?y88 hHeld ?r88
            case y88 =>
              intro wS hS
              go_simp
              all_goals with_reducible rfl
            try simp only [Act.put, List.setIfInBounds_toArray, List.set_cons_zero, List.set_cons_succ]
            refine Reg.take_yes (i := 11) (d := some 86) (v := ?v89) rfl rfl (by kernel_rfl) (by kernel_rfl) (by kernel_rfl) (fun _ _ _ h => h) (by rfl) ?y89 hHeld ?r89
            case y89 =>
              intro wS hS
              go_simp
              all_goals with_reducible rfl
            try simp only [Act.put, List.setIfInBounds_toArray, List.set_cons_zero, List.set_cons_succ]
            refine Reg.take_yes (i := 12) (d := some 87) (v := ?v90) rfl rfl (by kernel_rfl) (by kernel_rfl) (by kernel_rfl) (fun _ _ _ h => h) (by rfl) ?y90 hHeld ?r90
            case y90 =>
              intro wS hS
              obtain ⟨sB, sb⟩ := hS
              have hc := str_of sb cap
              go_simp
              all_goals with_reducible rfl
            try simp only [Act.put, List.setIfInBounds_toArray, List.set_cons_zero, List.set_cons_succ]
            refine wpAnyH_ready (rs := [6]) (by kernel_rfl) (by simp) ?_
            refine Reg.cons_yes rfl (by rfl) (fun K hK => ?_) ?_
            · go_simp
              have hH := hHeld
              obtain ⟨sB, sb⟩ := hH
              refine (HG.out _ sb).mono ?_
              rintro e wA ⟨rfl, hb⟩
              refine hK.out _ _ (⟨below_step sB hb, sb.below hb⟩) (fun hHeld => ?_)
              clear hK K sB sb
              try simp only [Act.put, List.setIfInBounds_toArray, List.set_cons_zero, List.set_cons_succ]
              refine wpAnyH_ready (rs := [9]) (by kernel_rfl) (by simp) ?_
              refine Reg.cons_yes rfl (by rfl) (fun K hK => ?_) ?_
              · go_simp
                have hH := hHeld
                obtain ⟨sB, sb⟩ := hH
                refine (HPB.out _).mono ?_
                rintro e wA ⟨r, rfl, hor, hb⟩
                obtain ⟨Ad, cd, rfl, _, hrr⟩ := Own.slice hor
                rw [HLn.out] at hrr ⊢
                clear hor
                refine hK.out _ _ (⟨below_step sB hb, sb.below hb⟩) (fun hHeld => ?_)
                have hHeld := (show (fun w' => (Rd w' Ad n (l)) ∧ (Below w.heap.size w w') ∧ (Rd w' A n l)) _ from ⟨hrr, hHeld⟩)
                refine Reg.imp (S' := (fun w' => (Rd w' Ad n (l)) ∧ (Below w.heap.size w w') ∧ (Rd w' A n l))) (fun _ hh => hh.2) _ _ _ _ ?_
                clear hK K sB sb
                try simp only [Act.put, List.setIfInBounds_toArray, List.set_cons_zero, List.set_cons_succ]
                refine Reg.take_yes (i := 10) (d := some 85) (v := ?v91) rfl rfl (by kernel_rfl) (by kernel_rfl) (by kernel_rfl) (fun _ _ _ h => h) (by rfl) ?y91 hHeld ?r91
                case y91 =>
                  intro wS hS
                  obtain ⟨sd, sB, sb⟩ := hS
                  have hc := str_of sd cd
                  go_simp
                  all_goals with_reducible rfl
                try simp only [Act.put, List.setIfInBounds_toArray, List.set_cons_zero, List.set_cons_succ]
                refine Reg.take_yes (i := 13) (d := some 88) (v := ?v92) rfl rfl (by kernel_rfl) (by kernel_rfl) (by kernel_rfl) (fun _ _ _ h => h) (by rfl) ?y92 hHeld ?r92
                case y92 =>
                  intro wS hS
                  go_simp
                  all_goals with_reducible rfl
                try simp only [Act.put, List.setIfInBounds_toArray, List.set_cons_zero, List.set_cons_succ]
                refine Reg.take_yes (i := 14) (d := some 89) (v := ?v93) rfl rfl (by kernel_rfl) (by kernel_rfl) (by kernel_rfl) (fun _ _ _ h => h) (by rfl) ?y93 hHeld ?r93
                case y93 =>
                  intro wS hS
                  go_simp
                  all_goals with_reducible rfl
                try simp only [Act.put, List.setIfInBounds_toArray, List.set_cons_zero, List.set_cons_succ]
                refine Reg.take_yes (i := 15) (d := some 6) (v := ?v94) rfl rfl (by kernel_rfl) (by kernel_rfl) (by kernel_rfl) (fun _ _ _ h => h) (by rfl) ?y94 hHeld ?r94
                case y94 =>
                  intro wS hS
                  go_simp
                  all_goals with_reducible rfl
                try simp only [Act.put, List.setIfInBounds_toArray, List.set_cons_zero, List.set_cons_succ]
                refine wpAnyH_done (by kernel_rfl) ?_ _
                obtain ⟨sd, sB, sb⟩ := hHeld
                go_wp2_with fail
                go_ret
                exact ⟨rfl, sB⟩
              exact AllReadyH.nil
            exact AllReadyH.nil
          exact AllReadyH.nil
      exact AllReadyH.nil
    exact AllReadyH.nil
  exact AllReadyH.nil
set_option maxRecDepth 100000 in
set_option maxHeartbeats 4000000 in
theorem walk4 (v x hi y a : Int) (vn hn : Nat) (z : Bool) (A : Option Addr) (n cap : Nat) (l : List Nat) (w : World) (h : Rd w A n l) (hc : n ≤ cap) (hn8 : n ≤ 8)
    (HP0 : ∀ W, Calls Try.prog 8 #[.int .u8 a] W (Ans (.int .i64 4) W))
    (HPut0 : ∀ W, Calls Try.prog 9 #[.int .u64 v, .int .i64 4] W (Puts (bys vn 4) W))
    (HLow0 : ∀ W, Calls Try.prog 11 #[.int .u64 v, .int .i64 4] W (Ans (.int .u64 x) W))
    (HGet0 : ∀ W A c, Rd W A 4 (bys vn 4) → 4 ≤ c → Calls Try.prog 13 #[.slice A 4 c] W (Ans (.int .u64 x) W))
    (HSz0 : ∀ W, Calls Try.prog 16 #[.int .i64 (n : Int)] W (Ans (.bool z) W))
    (HGb0 : z = true → ∀ W, Rd W A n l → Calls Try.prog 13 #[.slice A n cap] W (Ans (.int .u64 y) W))
    (HPb0 : z = true → ∀ W, Calls Try.prog 9 #[.int .u64 y, .int .i64 (n : Int)] W (Puts l W))
    (HPuta0 : ∀ W, Calls Try.prog 9 #[.int .u64 v, .int .i64 8] W (Puts (bys vn 8) W))
    (HPutb0 : ∀ W, Calls Try.prog 9 #[.int .u64 hi, .int .i64 4] W (Puts (bys hn 4) W))
    (hst : str (bys vn 8) = str (bys vn 4) ++ str (bys hn 4))
    (hv0 : 0 ≤ v) (hx0 : 0 ≤ x) (hj : v / 4294967296 = hi) (hk : x / 4294967296 = 0) :
    Calls Try.prog 4 #[.int .u64 v, .int .u8 a, .slice A n cap] w fun e w' => e = .returned (.bool true) ∧ Below w.heap.size w w' := by
  have HP := Lib.hid HP0
  have HPut := Lib.hid HPut0
  have HLow := Lib.hid HLow0
  have HGet := Lib.hid HGet0
  have HSz := Lib.hid HSz0
  have HGb := Lib.hid HGb0
  have HPb := Lib.hid HPb0
  have HPuta := Lib.hid HPuta0
  have HPutb := Lib.hid HPutb0
  have HST := Lib.hid hst
  clear hst
  have HR := Lib.hid h
  have HLn := Lib.hid h.len
  have hid0 := Lib.hid (Below.refl w.heap.size w)
  clear h HP0 HPut0 HLow0 HGet0 HSz0 HGb0 HPb0 HPuta0 HPutb0
  go_enter Try.func4, Try.ntmps4
  go_wp2_with fail
  refine (awake_says _).mono ?_
  rintro e w1 ⟨rfl, hb⟩
  have hid1 := Lib.hid hb
  clear hb hid0
  go_wp2_with fail
  refine (HP.out _).mono ?_
  rintro e w2 ⟨rfl, hb⟩
  have hid2 := Lib.hid (below_step hid1.out hb)
  clear hb hid1
  go_wp2_with fail
  refine (HPut.out _).mono ?_
  rintro e w3 ⟨vp, rfl, hop, hb⟩
  obtain ⟨Ap, cp, rfl, hcp, hrp⟩ := Own.slice hop
  rw [bys_len] at hcp hrp ⊢
  have HRp := Lib.hid hrp
  have hid3 := Lib.hid (below_step hid2.out hb)
  clear hb hid2 hop hrp
  go_wp2_with fail
  refine (HGet.out _ _ _ HRp.out hcp).mono ?_
  rintro e w4 ⟨rfl, hb⟩
  have HRp4 := Lib.hid (HRp.out.below hb)
  have hid4 := Lib.hid (below_step hid3.out hb)
  clear hb hid3 HRp
  go_wp2_with fail
  refine (HLow.out _).mono ?_
  rintro e w5 ⟨rfl, hb⟩
  have HRp5 := Lib.hid (HRp4.out.below hb)
  have hid5 := Lib.hid (below_step hid4.out hb)
  clear hb hid4 HRp4
  go_wp2_with fail
  have eB := Lib.hid hid5.out.drew
  have ep := Lib.hid (HRp5.out.below (Below.refl _ _).drew)
  have eb := Lib.hid (HR.out.below eB.out)
  clear hid5 HRp5
  have hwi8 : IntKind.i64.wrap 8 = 8 := by decide
  have hwu8 : IntKind.u64.wrap 8 = 8 := by decide
  have hwi32 : IntKind.i64.wrap 32 = 32 := by decide
  have hwu32 : IntKind.u64.wrap 32 = 32 := by decide
  refine wp_region_held_drew (S := (fun w' => (Below w.heap.size w w') ∧ (Rd w' A n l) ∧ (Rd w' Ap 4 (bys vn 4)))) (by kernel_rfl) (⟨eB.out, eb.out, ep.out⟩) (fun hHeld => ?_)
  refine Reg.take_yes (i := 0) (d := some 44) (v := ?v95) rfl rfl (by kernel_rfl) (by kernel_rfl) (by kernel_rfl) (fun _ _ _ h => h) (by rfl) ?y95 hHeld ?r95
  case y95 =>
    intro wS hS
    go_simp
    all_goals with_reducible rfl
  try simp only [Act.put, List.setIfInBounds_toArray, List.set_cons_zero, List.set_cons_succ]
  refine Reg.take_yes (i := 1) (d := some 45) (v := ?v96) rfl rfl (by kernel_rfl) (by kernel_rfl) (by kernel_rfl) (fun _ _ _ h => h) (by rfl) ?y96 hHeld ?r96
  case y96 =>
    intro wS hS
    go_simp
    all_goals with_reducible rfl
  try simp only [Act.put, List.setIfInBounds_toArray, List.set_cons_zero, List.set_cons_succ]
  refine Reg.take_yes (i := 2) (d := some 46) (v := ?v97) rfl rfl (by kernel_rfl) (by kernel_rfl) (by kernel_rfl) (fun _ _ _ h => h) (by rfl) ?y97 hHeld ?r97
  case y97 =>
    intro wS hS
    go_simp
    all_goals with_reducible rfl
  try simp only [Act.put, List.setIfInBounds_toArray, List.set_cons_zero, List.set_cons_succ]
  refine Reg.take_yes (i := 3) (d := some 47) (v := ?v98) rfl rfl (by kernel_rfl) (by kernel_rfl) (by kernel_rfl) (fun _ _ _ h => h) (by rfl) ?y98 hHeld ?r98
  case y98 =>
    intro wS hS
    go_simp
    all_goals with_reducible rfl
  try simp only [Act.put, List.setIfInBounds_toArray, List.set_cons_zero, List.set_cons_succ]
  refine Reg.take_yes (i := 4) (d := some 48) (v := ?v99) rfl rfl (by kernel_rfl) (by kernel_rfl) (by kernel_rfl) (fun _ _ _ h => h) (by rfl) ?y99 hHeld ?r99
  case y99 =>
    intro wS hS
    go_simp
    all_goals with_reducible rfl
  try simp only [Act.put, List.setIfInBounds_toArray, List.set_cons_zero, List.set_cons_succ]
  refine Reg.take_yes (i := 5) (d := some 49) (v := ?v100) rfl rfl (by kernel_rfl) (by kernel_rfl) (by kernel_rfl) (fun _ _ _ h => h) (by rfl) ?y100 hHeld ?r100
  case y100 =>
    intro wS hS
    go_simp
    all_goals with_reducible rfl
  try simp only [Act.put, List.setIfInBounds_toArray, List.set_cons_zero, List.set_cons_succ]
  refine Reg.take_yes (i := 8) (d := some 52) (v := ?v101) rfl rfl (by kernel_rfl) (by kernel_rfl) (by kernel_rfl) (fun _ _ _ h => h) (by rfl) ?y101 hHeld ?r101
  case y101 =>
    intro wS hS
    go_simp
    all_goals with_reducible rfl
  try simp only [Act.put, List.setIfInBounds_toArray, List.set_cons_zero, List.set_cons_succ]
  refine Reg.take_yes (i := 9) (d := some 53) (v := ?v102) rfl rfl (by kernel_rfl) (by kernel_rfl) (by kernel_rfl) (fun _ _ _ h => h) (by rfl) ?y102 hHeld ?r102
  case y102 =>
    intro wS hS
    obtain ⟨sB, sb, sp⟩ := hS
    have hc := str_of sp cp
    go_simp
    all_goals with_reducible rfl
  try simp only [Act.put, List.setIfInBounds_toArray, List.set_cons_zero, List.set_cons_succ]
  refine Reg.take_yes (i := 10) (d := some 54) (v := ?v103) rfl rfl (by kernel_rfl) (by kernel_rfl) (by kernel_rfl) (fun _ _ _ h => h) (by rfl) ?y103 hHeld ?r103
  case y103 =>
    intro wS hS
    go_simp
    all_goals with_reducible rfl
  try simp only [Act.put, List.setIfInBounds_toArray, List.set_cons_zero, List.set_cons_succ]
  refine Reg.take_yes (i := 11) (d := some 55) (v := ?v104) rfl rfl (by kernel_rfl) (by kernel_rfl) (by kernel_rfl) (fun _ _ _ h => h) (by rfl) ?y104 hHeld ?r104
  case y104 =>
    intro wS hS
    go_simp
    all_goals with_reducible rfl
  try simp only [Act.put, List.setIfInBounds_toArray, List.set_cons_zero, List.set_cons_succ]
  refine Reg.take_yes (i := 12) (d := some 56) (v := ?v105) rfl rfl (by kernel_rfl) (by kernel_rfl) (by kernel_rfl) (fun _ _ _ h => h) (by rfl) ?y105 hHeld ?r105
  case y105 =>
    intro wS hS
    go_simp
    all_goals with_reducible rfl
  try simp only [Act.put, List.setIfInBounds_toArray, List.set_cons_zero, List.set_cons_succ]
  refine Reg.take_yes (i := 13) (d := some 57) (v := ?v106) rfl rfl (by kernel_rfl) (by kernel_rfl) (by kernel_rfl) (fun _ _ _ h => h) (by rfl) ?y106 hHeld ?r106
  case y106 =>
    intro wS hS
    go_simp
    all_goals with_reducible rfl
  try simp only [Act.put, List.setIfInBounds_toArray, List.set_cons_zero, List.set_cons_succ]
  refine Reg.take_yes (i := 14) (d := some 58) (v := ?v107) rfl rfl (by kernel_rfl) (by kernel_rfl) (by kernel_rfl) (fun _ _ _ h => h) (by rfl) ?y107 hHeld ?r107
  case y107 =>
    intro wS hS
    go_simp
    all_goals with_reducible rfl
  try simp only [Act.put, List.setIfInBounds_toArray, List.set_cons_zero, List.set_cons_succ]
  refine Reg.take_yes (i := 15) (d := some 59) (v := ?v108) rfl rfl (by kernel_rfl) (by kernel_rfl) (by kernel_rfl) (fun _ _ _ h => h) (by rfl) ?y108 hHeld ?r108
  case y108 =>
    intro wS hS
    go_simp
    all_goals with_reducible rfl
  try simp only [Act.put, List.setIfInBounds_toArray, List.set_cons_zero, List.set_cons_succ]
  refine wpAnyH_ready (rs := [6]) (by kernel_rfl) (by simp) ?_
  refine Reg.cons_yes rfl (by rfl) (fun K hK => ?_) ?_
  · go_simp
    have hH := hHeld
    obtain ⟨sB, sb, sp⟩ := hH
    refine (HPuta.out _).mono ?_
    rintro e wA ⟨r, rfl, hor, hb⟩
    obtain ⟨Aa, ca, rfl, _, hrr⟩ := Own.slice hor
    rw [bys_len] at hrr ⊢
    clear hor
    refine hK.out _ _ (⟨below_step sB hb, sb.below hb, sp.below hb⟩) (fun hHeld => ?_)
    have hHeld := (show (fun w' => (Rd w' Aa 8 (bys vn 8)) ∧ (Below w.heap.size w w') ∧ (Rd w' A n l) ∧ (Rd w' Ap 4 (bys vn 4))) _ from ⟨hrr, hHeld⟩)
    refine Reg.imp (S' := (fun w' => (Rd w' Aa 8 (bys vn 8)) ∧ (Below w.heap.size w w') ∧ (Rd w' A n l) ∧ (Rd w' Ap 4 (bys vn 4)))) (fun _ hh => hh.2) _ _ _ _ ?_
    clear hK K sB sb sp
    try simp only [Act.put, List.setIfInBounds_toArray, List.set_cons_zero, List.set_cons_succ]
    refine Reg.take_yes (i := 7) (d := some 51) (v := ?v109) rfl rfl (by kernel_rfl) (by kernel_rfl) (by kernel_rfl) (fun _ _ _ h => h) (by rfl) ?y109 hHeld ?r109
    case y109 =>
      intro wS hS
      obtain ⟨sa, sB, sb, sp⟩ := hS
      have hc := str_of sa ca
      rw [HST.out] at hc
      go_simp
      all_goals with_reducible rfl
    try simp only [Act.put, List.setIfInBounds_toArray, List.set_cons_zero, List.set_cons_succ]
    refine wpAnyH_ready (rs := [16]) (by kernel_rfl) (by simp) ?_
    refine Reg.cons_yes rfl (by rfl) (fun K hK => ?_) ?_
    · go_simp
      have hH := hHeld
      obtain ⟨sa, sB, sb, sp⟩ := hH
      refine (HPutb.out _).mono ?_
      rintro e wA ⟨r, rfl, hor, hb⟩
      obtain ⟨Ac, cc, rfl, _, hrr⟩ := Own.slice hor
      rw [bys_len] at hrr ⊢
      clear hor
      refine hK.out _ _ (⟨sa.below hb, below_step sB hb, sb.below hb, sp.below hb⟩) (fun hHeld => ?_)
      have hHeld := (show (fun w' => (Rd w' Ac 4 (bys hn 4)) ∧ (Rd w' Aa 8 (bys vn 8)) ∧ (Below w.heap.size w w') ∧ (Rd w' A n l) ∧ (Rd w' Ap 4 (bys vn 4))) _ from ⟨hrr, hHeld⟩)
      refine Reg.imp (S' := (fun w' => (Rd w' Ac 4 (bys hn 4)) ∧ (Rd w' Aa 8 (bys vn 8)) ∧ (Below w.heap.size w w') ∧ (Rd w' A n l) ∧ (Rd w' Ap 4 (bys vn 4)))) (fun _ hh => hh.2) _ _ _ _ ?_
      clear hK K sa sB sb sp
      try simp only [Act.put, List.setIfInBounds_toArray, List.set_cons_zero, List.set_cons_succ]
      refine Reg.take_yes (i := 17) (d := some 61) (v := ?v110) rfl rfl (by kernel_rfl) (by kernel_rfl) (by kernel_rfl) (fun _ _ _ h => h) (by rfl) ?y110 hHeld ?r110
      case y110 =>
        intro wS hS
        obtain ⟨sc, sa, sB, sb, sp⟩ := hS
        have hc := str_of sc cc
        go_simp
        all_goals with_reducible rfl
      try simp only [Act.put, List.setIfInBounds_toArray, List.set_cons_zero, List.set_cons_succ]
      refine Reg.take_yes (i := 18) (d := some 62) (v := ?v111) rfl rfl (by kernel_rfl) (by kernel_rfl) (by kernel_rfl) (fun _ _ _ h => h) (by rfl) ?y111 hHeld ?r111
      case y111 =>
        intro wS hS
        obtain ⟨sc, sa, sB, sb, sp⟩ := hS
        have hz1 := str_size (bys vn 4)
        have hz2 := str_size (bys hn 4)
        rw [bys_len] at hz1 hz2
        have hz3 := fun w => run_string_add_sum (P := Try.prog) w (str (bys vn 4)) (str (bys hn 4)) (by omega)
        go_simp
        all_goals with_reducible rfl
      try simp only [Act.put, List.setIfInBounds_toArray, List.set_cons_zero, List.set_cons_succ]
      refine Reg.take_yes (i := 19) (d := some 63) (v := ?v112) rfl rfl (by kernel_rfl) (by kernel_rfl) (by kernel_rfl) (fun _ _ _ h => h) (by rfl) ?y112 hHeld ?r112
      case y112 =>
        intro wS hS
        go_simp
        all_goals with_reducible rfl
      try simp only [Act.put, List.setIfInBounds_toArray, List.set_cons_zero, List.set_cons_succ]
      refine Reg.take_yes (i := 20) (d := some 64) (v := ?v113) rfl rfl (by kernel_rfl) (by kernel_rfl) (by kernel_rfl) (fun _ _ _ h => h) (by rfl) ?y113 hHeld ?r113
      case y113 =>
        intro wS hS
        go_simp
        all_goals with_reducible rfl
      try simp only [Act.put, List.setIfInBounds_toArray, List.set_cons_zero, List.set_cons_succ]
      refine Reg.take_yes (i := 21) (d := some 65) (v := ?v114) rfl rfl (by kernel_rfl) (by kernel_rfl) (by kernel_rfl) (fun _ _ _ h => h) (by rfl) ?y114 hHeld ?r114
      case y114 =>
        intro wS hS
        go_simp
        all_goals with_reducible rfl
      try simp only [Act.put, List.setIfInBounds_toArray, List.set_cons_zero, List.set_cons_succ]
      refine Reg.take_yes (i := 22) (d := some 66) (v := ?v115) rfl rfl (by kernel_rfl) (by kernel_rfl) (by kernel_rfl) (fun _ _ _ h => h) (by rfl) ?y115 hHeld ?r115
      case y115 =>
        intro wS hS
        go_simp
        all_goals with_reducible rfl
      try simp only [Act.put, List.setIfInBounds_toArray, List.set_cons_zero, List.set_cons_succ]
      refine Reg.take_yes (i := 24) (d := some 68) (v := ?v116) rfl rfl (by kernel_rfl) (by kernel_rfl) (by kernel_rfl) (fun _ _ _ h => h) (by rfl) ?y116 hHeld ?r116
      case y116 =>
        intro wS hS
        go_simp
        all_goals with_reducible rfl
      try simp only [Act.put, List.setIfInBounds_toArray, List.set_cons_zero, List.set_cons_succ]
      refine Reg.take_yes (i := 25) (d := some 69) (v := ?v117) rfl rfl (by kernel_rfl) (by kernel_rfl) (by kernel_rfl) (fun _ _ _ h => h) (by rfl) ?y117 hHeld ?r117
      case y117 =>
        intro wS hS
        go_simp
        all_goals with_reducible rfl
      try simp only [Act.put, List.setIfInBounds_toArray, List.set_cons_zero, List.set_cons_succ]
      refine Reg.take_yes (i := 26) (d := some 70) (v := ?v118) rfl rfl (by kernel_rfl) (by kernel_rfl) (by kernel_rfl) (fun _ _ _ h => h) (by rfl) ?y118 hHeld ?r118
      case y118 =>
        intro wS hS
        go_simp
        all_goals with_reducible rfl
      try simp only [Act.put, List.setIfInBounds_toArray, List.set_cons_zero, List.set_cons_succ]
      refine wpAnyH_ready (rs := [23]) (by kernel_rfl) (by simp) ?_
      refine Reg.cons_yes rfl (by rfl) (fun K hK => ?_) ?_
      · go_simp
        have hH := hHeld
        obtain ⟨sc, sa, sB, sb, sp⟩ := hH
        refine (HLow.out _).mono ?_
        rintro e wA ⟨rfl, hb⟩
        refine hK.out _ _ (⟨sc.below hb, sa.below hb, below_step sB hb, sb.below hb, sp.below hb⟩) (fun hHeld => ?_)
        clear hK K sc sa sB sb sp
        try simp only [Act.put, List.setIfInBounds_toArray, List.set_cons_zero, List.set_cons_succ]
        refine Reg.take_yes (i := 27) (d := some 71) (v := ?v119) rfl rfl (by kernel_rfl) (by kernel_rfl) (by kernel_rfl) (fun _ _ _ h => h) (by rfl) ?y119 hHeld ?r119
        case y119 =>
          intro wS hS
          go_simp
          all_goals with_reducible rfl
        try simp only [Act.put, List.setIfInBounds_toArray, List.set_cons_zero, List.set_cons_succ]
        refine Reg.take_yes (i := 28) (d := some 72) (v := ?v120) rfl rfl (by kernel_rfl) (by kernel_rfl) (by kernel_rfl) (fun _ _ _ h => h) (by rfl) ?y120 hHeld ?r120
        case y120 =>
          intro wS hS
          go_simp
          all_goals with_reducible rfl
        try simp only [Act.put, List.setIfInBounds_toArray, List.set_cons_zero, List.set_cons_succ]
        refine Reg.take_yes (i := 29) (d := some 73) (v := ?v121) rfl rfl (by kernel_rfl) (by kernel_rfl) (by kernel_rfl) (fun _ _ _ h => h) (by rfl) ?y121 hHeld ?r121
        case y121 =>
          intro wS hS
          go_simp
          all_goals with_reducible rfl
        try simp only [Act.put, List.setIfInBounds_toArray, List.set_cons_zero, List.set_cons_succ]
        refine Reg.take_yes (i := 30) (d := some 74) (v := ?v122) rfl rfl (by kernel_rfl) (by kernel_rfl) (by kernel_rfl) (fun _ _ _ h => h) (by rfl) ?y122 hHeld ?r122
        case y122 =>
          intro wS hS
          go_simp
          all_goals with_reducible rfl
        try simp only [Act.put, List.setIfInBounds_toArray, List.set_cons_zero, List.set_cons_succ]
        refine wpAnyH_done (by kernel_rfl) ?_ _
        obtain ⟨sc, sa, sB, sb, sp⟩ := hHeld
        go_wp2_with fail
        have eB9 := Lib.hid sB.drew
        have eb9 := Lib.hid (sb.below (Below.refl _ _).drew)
        clear sB sb sp eB eb ep
        cases z with
        | false =>
          refine wp_region_held_drew (S := (fun w' => (Below w.heap.size w w') ∧ (Rd w' A n l))) (by kernel_rfl) (⟨eB9.out, eb9.out⟩) (fun hHeld => ?_)
          refine Reg.take_yes (i := 0) (d := some 75) (v := ?v123) rfl rfl (by kernel_rfl) (by kernel_rfl) (by kernel_rfl) (fun _ _ _ h => h) (by rfl) ?y123 hHeld ?r123
          case y123 =>
            intro wS hS
            go_simp
            all_goals with_reducible rfl
          try simp only [Act.put, List.setIfInBounds_toArray, List.set_cons_zero, List.set_cons_succ]
          refine Reg.take_yes (i := 1) (d := some 76) (v := ?v124) rfl rfl (by kernel_rfl) (by kernel_rfl) (by kernel_rfl) (fun _ _ _ h => h) (by rfl) ?y124 hHeld ?r124
          case y124 =>
            intro wS hS
            go_simp
            all_goals with_reducible rfl
          try simp only [Act.put, List.setIfInBounds_toArray, List.set_cons_zero, List.set_cons_succ]
          refine wpAnyH_ready (rs := [2]) (by kernel_rfl) (by simp) ?_
          refine Reg.cons_yes rfl (by rfl) (fun K hK => ?_) ?_
          · go_simp
            have hH := hHeld
            obtain ⟨sB, sb⟩ := hH
            refine (HSz.out _).mono ?_
            rintro e wA ⟨rfl, hb⟩
            refine hK.out _ _ (⟨below_step sB hb, sb.below hb⟩) (fun hHeld => ?_)
            clear hK K sB sb
            try simp only [Act.put, List.setIfInBounds_toArray, List.set_cons_zero, List.set_cons_succ]
            refine Reg.take_yes (i := 3) (d := some 78) (v := ?v125) rfl rfl (by kernel_rfl) (by kernel_rfl) (by kernel_rfl) (fun _ _ _ h => h) (by rfl) ?y125 hHeld ?r125
            case y125 =>
              intro wS hS
              go_simp
              all_goals with_reducible rfl
            try simp only [Act.put, List.setIfInBounds_toArray, List.set_cons_zero, List.set_cons_succ]
            refine Reg.take_yes (i := 4) (d := some 79) (v := ?v126) rfl rfl (by kernel_rfl) (by kernel_rfl) (by kernel_rfl) (fun _ _ _ h => h) (by rfl) ?y126 hHeld ?r126
            case y126 =>
              intro wS hS
              go_simp
              all_goals with_reducible rfl
            try simp only [Act.put, List.setIfInBounds_toArray, List.set_cons_zero, List.set_cons_succ]
            refine Reg.take_no (i := 5) (d := some 80) rfl rfl (by kernel_rfl) (by kernel_rfl) (by kernel_rfl) (fun _ _ _ h => h) (by rfl) hHeld ?_
            try simp only [Act.put, List.setIfInBounds_toArray, List.set_cons_zero, List.set_cons_succ]
            refine Reg.take_no (i := 6) (d := some 81) rfl rfl (by kernel_rfl) (by kernel_rfl) (by kernel_rfl) (fun _ _ _ h => h) (by rfl) hHeld ?_
            try simp only [Act.put, List.setIfInBounds_toArray, List.set_cons_zero, List.set_cons_succ]
            refine Reg.take_no (i := 7) (d := some 82) rfl rfl (by kernel_rfl) (by kernel_rfl) (by kernel_rfl) (fun _ _ _ h => h) (by rfl) hHeld ?_
            try simp only [Act.put, List.setIfInBounds_toArray, List.set_cons_zero, List.set_cons_succ]
            refine Reg.take_no (i := 8) (d := some 83) rfl rfl (by kernel_rfl) (by kernel_rfl) (by kernel_rfl) (fun _ _ _ h => h) (by rfl) hHeld ?_
            try simp only [Act.put, List.setIfInBounds_toArray, List.set_cons_zero, List.set_cons_succ]
            refine Reg.take_no (i := 9) (d := some 84) rfl rfl (by kernel_rfl) (by kernel_rfl) (by kernel_rfl) (fun _ _ _ h => h) (by rfl) hHeld ?_
            try simp only [Act.put, List.setIfInBounds_toArray, List.set_cons_zero, List.set_cons_succ]
            refine Reg.take_no (i := 10) (d := some 85) rfl rfl (by kernel_rfl) (by kernel_rfl) (by kernel_rfl) (fun _ _ _ h => h) (by rfl) hHeld ?_
            try simp only [Act.put, List.setIfInBounds_toArray, List.set_cons_zero, List.set_cons_succ]
            refine Reg.take_no (i := 11) (d := some 86) rfl rfl (by kernel_rfl) (by kernel_rfl) (by kernel_rfl) (fun _ _ _ h => h) (by rfl) hHeld ?_
            try simp only [Act.put, List.setIfInBounds_toArray, List.set_cons_zero, List.set_cons_succ]
            refine Reg.take_no (i := 12) (d := some 87) rfl rfl (by kernel_rfl) (by kernel_rfl) (by kernel_rfl) (fun _ _ _ h => h) (by rfl) hHeld ?_
            try simp only [Act.put, List.setIfInBounds_toArray, List.set_cons_zero, List.set_cons_succ]
            refine Reg.take_no (i := 13) (d := some 88) rfl rfl (by kernel_rfl) (by kernel_rfl) (by kernel_rfl) (fun _ _ _ h => h) (by rfl) hHeld ?_
            try simp only [Act.put, List.setIfInBounds_toArray, List.set_cons_zero, List.set_cons_succ]
            refine Reg.take_yes (i := 14) (d := some 89) (v := ?v127) rfl rfl (by kernel_rfl) (by kernel_rfl) (by kernel_rfl) (fun _ _ _ h => h) (by rfl) ?y127 hHeld ?r127
            case y127 =>
              intro wS hS
              go_simp
              all_goals with_reducible rfl
            try simp only [Act.put, List.setIfInBounds_toArray, List.set_cons_zero, List.set_cons_succ]
            refine Reg.take_yes (i := 15) (d := some 6) (v := ?v128) rfl rfl (by kernel_rfl) (by kernel_rfl) (by kernel_rfl) (fun _ _ _ h => h) (by rfl) ?y128 hHeld ?r128
            case y128 =>
              intro wS hS
              go_simp
              all_goals with_reducible rfl
            try simp only [Act.put, List.setIfInBounds_toArray, List.set_cons_zero, List.set_cons_succ]
            refine wpAnyH_done (by kernel_rfl) ?_ _
            obtain ⟨sB, sb⟩ := hHeld
            go_wp2_with fail
            go_ret
            exact ⟨rfl, sB⟩
          exact AllReadyH.nil
        | true =>
          have HG := Lib.hid (HGb.out rfl)
          have HPB := Lib.hid (HPb.out rfl)
          refine wp_region_held_drew (S := (fun w' => (Below w.heap.size w w') ∧ (Rd w' A n l))) (by kernel_rfl) (⟨eB9.out, eb9.out⟩) (fun hHeld => ?_)
          refine Reg.take_yes (i := 0) (d := some 75) (v := ?v129) rfl rfl (by kernel_rfl) (by kernel_rfl) (by kernel_rfl) (fun _ _ _ h => h) (by rfl) ?y129 hHeld ?r129
          case y129 =>
            intro wS hS
            go_simp
            all_goals with_reducible rfl
          try simp only [Act.put, List.setIfInBounds_toArray, List.set_cons_zero, List.set_cons_succ]
          refine Reg.take_yes (i := 1) (d := some 76) (v := ?v130) rfl rfl (by kernel_rfl) (by kernel_rfl) (by kernel_rfl) (fun _ _ _ h => h) (by rfl) ?y130 hHeld ?r130
          case y130 =>
            intro wS hS
            go_simp
            all_goals with_reducible rfl
          try simp only [Act.put, List.setIfInBounds_toArray, List.set_cons_zero, List.set_cons_succ]
          refine wpAnyH_ready (rs := [2]) (by kernel_rfl) (by simp) ?_
          refine Reg.cons_yes rfl (by rfl) (fun K hK => ?_) ?_
          · go_simp
            have hH := hHeld
            obtain ⟨sB, sb⟩ := hH
            refine (HSz.out _).mono ?_
            rintro e wA ⟨rfl, hb⟩
            refine hK.out _ _ (⟨below_step sB hb, sb.below hb⟩) (fun hHeld => ?_)
            clear hK K sB sb
            try simp only [Act.put, List.setIfInBounds_toArray, List.set_cons_zero, List.set_cons_succ]
            refine Reg.take_yes (i := 3) (d := some 78) (v := ?v131) rfl rfl (by kernel_rfl) (by kernel_rfl) (by kernel_rfl) (fun _ _ _ h => h) (by rfl) ?y131 hHeld ?r131
            case y131 =>
              intro wS hS
              go_simp
              all_goals with_reducible rfl
            try simp only [Act.put, List.setIfInBounds_toArray, List.set_cons_zero, List.set_cons_succ]
            refine Reg.take_yes (i := 4) (d := some 79) (v := ?v132) rfl rfl (by kernel_rfl) (by kernel_rfl) (by kernel_rfl) (fun _ _ _ h => h) (by rfl) ?y132 hHeld ?r132
            case y132 =>
              intro wS hS
              go_simp
              all_goals with_reducible rfl
            try simp only [Act.put, List.setIfInBounds_toArray, List.set_cons_zero, List.set_cons_succ]
            refine Reg.take_yes (i := 5) (d := some 80) (v := ?v133) rfl rfl (by kernel_rfl) (by kernel_rfl) (by kernel_rfl) (fun _ _ _ h => h) (by rfl) ?y133 hHeld ?r133
            case y133 =>
              intro wS hS
              go_simp
              all_goals with_reducible rfl
            try simp only [Act.put, List.setIfInBounds_toArray, List.set_cons_zero, List.set_cons_succ]
            refine Reg.take_yes (i := 7) (d := some 82) (v := ?v134) rfl rfl (by kernel_rfl) (by kernel_rfl) (by kernel_rfl) (fun _ _ _ h => h) (by rfl) ?y134 hHeld ?r134
            case y134 =>
              intro wS hS
              go_simp
              all_goals with_reducible rfl
            try simp only [Act.put, List.setIfInBounds_toArray, List.set_cons_zero, List.set_cons_succ]
            refine Reg.take_yes (i := 8) (d := some 83) (v := ?v135) rfl rfl (by kernel_rfl) (by kernel_rfl) (by kernel_rfl) (fun _ _ _ h => h) (by rfl) ?y135 hHeld ?r135
            case y135 =>
              intro wS hS
              go_simp
              all_goals with_reducible rfl
            try simp only [Act.put, List.setIfInBounds_toArray, List.set_cons_zero, List.set_cons_succ]
            refine Reg.take_yes (i := 11) (d := some 86) (v := ?v136) rfl rfl (by kernel_rfl) (by kernel_rfl) (by kernel_rfl) (fun _ _ _ h => h) (by rfl) ?y136 hHeld ?r136
            case y136 =>
              intro wS hS
              go_simp
              all_goals with_reducible rfl
            try simp only [Act.put, List.setIfInBounds_toArray, List.set_cons_zero, List.set_cons_succ]
            refine Reg.take_yes (i := 12) (d := some 87) (v := ?v137) rfl rfl (by kernel_rfl) (by kernel_rfl) (by kernel_rfl) (fun _ _ _ h => h) (by rfl) ?y137 hHeld ?r137
            case y137 =>
              intro wS hS
              obtain ⟨sB, sb⟩ := hS
              have hc := str_of sb cap
              go_simp
              all_goals with_reducible rfl
            try simp only [Act.put, List.setIfInBounds_toArray, List.set_cons_zero, List.set_cons_succ]
            refine wpAnyH_ready (rs := [6]) (by kernel_rfl) (by simp) ?_
            refine Reg.cons_yes rfl (by rfl) (fun K hK => ?_) ?_
            · go_simp
              have hH := hHeld
              obtain ⟨sB, sb⟩ := hH
              refine (HG.out _ sb).mono ?_
              rintro e wA ⟨rfl, hb⟩
              refine hK.out _ _ (⟨below_step sB hb, sb.below hb⟩) (fun hHeld => ?_)
              clear hK K sB sb
              try simp only [Act.put, List.setIfInBounds_toArray, List.set_cons_zero, List.set_cons_succ]
              refine wpAnyH_ready (rs := [9]) (by kernel_rfl) (by simp) ?_
              refine Reg.cons_yes rfl (by rfl) (fun K hK => ?_) ?_
              · go_simp
                have hH := hHeld
                obtain ⟨sB, sb⟩ := hH
                refine (HPB.out _).mono ?_
                rintro e wA ⟨r, rfl, hor, hb⟩
                obtain ⟨Ad, cd, rfl, _, hrr⟩ := Own.slice hor
                rw [HLn.out] at hrr ⊢
                clear hor
                refine hK.out _ _ (⟨below_step sB hb, sb.below hb⟩) (fun hHeld => ?_)
                have hHeld := (show (fun w' => (Rd w' Ad n (l)) ∧ (Below w.heap.size w w') ∧ (Rd w' A n l)) _ from ⟨hrr, hHeld⟩)
                refine Reg.imp (S' := (fun w' => (Rd w' Ad n (l)) ∧ (Below w.heap.size w w') ∧ (Rd w' A n l))) (fun _ hh => hh.2) _ _ _ _ ?_
                clear hK K sB sb
                try simp only [Act.put, List.setIfInBounds_toArray, List.set_cons_zero, List.set_cons_succ]
                refine Reg.take_yes (i := 10) (d := some 85) (v := ?v138) rfl rfl (by kernel_rfl) (by kernel_rfl) (by kernel_rfl) (fun _ _ _ h => h) (by rfl) ?y138 hHeld ?r138
                case y138 =>
                  intro wS hS
                  obtain ⟨sd, sB, sb⟩ := hS
                  have hc := str_of sd cd
                  go_simp
                  all_goals with_reducible rfl
                try simp only [Act.put, List.setIfInBounds_toArray, List.set_cons_zero, List.set_cons_succ]
                refine Reg.take_yes (i := 13) (d := some 88) (v := ?v139) rfl rfl (by kernel_rfl) (by kernel_rfl) (by kernel_rfl) (fun _ _ _ h => h) (by rfl) ?y139 hHeld ?r139
                case y139 =>
                  intro wS hS
                  go_simp
                  all_goals with_reducible rfl
                try simp only [Act.put, List.setIfInBounds_toArray, List.set_cons_zero, List.set_cons_succ]
                refine Reg.take_yes (i := 14) (d := some 89) (v := ?v140) rfl rfl (by kernel_rfl) (by kernel_rfl) (by kernel_rfl) (fun _ _ _ h => h) (by rfl) ?y140 hHeld ?r140
                case y140 =>
                  intro wS hS
                  go_simp
                  all_goals with_reducible rfl
                try simp only [Act.put, List.setIfInBounds_toArray, List.set_cons_zero, List.set_cons_succ]
                refine Reg.take_yes (i := 15) (d := some 6) (v := ?v141) rfl rfl (by kernel_rfl) (by kernel_rfl) (by kernel_rfl) (fun _ _ _ h => h) (by rfl) ?y141 hHeld ?r141
                case y141 =>
                  intro wS hS
                  go_simp
                  all_goals with_reducible rfl
                try simp only [Act.put, List.setIfInBounds_toArray, List.set_cons_zero, List.set_cons_succ]
                refine wpAnyH_done (by kernel_rfl) ?_ _
                obtain ⟨sd, sB, sb⟩ := hHeld
                go_wp2_with fail
                go_ret
                exact ⟨rfl, sB⟩
              exact AllReadyH.nil
            exact AllReadyH.nil
          exact AllReadyH.nil
      exact AllReadyH.nil
    exact AllReadyH.nil
  exact AllReadyH.nil
set_option maxRecDepth 100000 in
set_option maxHeartbeats 4000000 in
theorem walk8 (v x hi y a : Int) (vn hn : Nat) (z : Bool) (A : Option Addr) (n cap : Nat) (l : List Nat) (w : World) (h : Rd w A n l) (hc : n ≤ cap) (hn8 : n ≤ 8)
    (HP0 : ∀ W, Calls Try.prog 8 #[.int .u8 a] W (Ans (.int .i64 8) W))
    (HPut0 : ∀ W, Calls Try.prog 9 #[.int .u64 v, .int .i64 8] W (Puts (bys vn 8) W))
    (HLow0 : ∀ W, Calls Try.prog 11 #[.int .u64 v, .int .i64 8] W (Ans (.int .u64 x) W))
    (HGet0 : ∀ W A c, Rd W A 8 (bys vn 8) → 8 ≤ c → Calls Try.prog 13 #[.slice A 8 c] W (Ans (.int .u64 x) W))
    (HSz0 : ∀ W, Calls Try.prog 16 #[.int .i64 (n : Int)] W (Ans (.bool z) W))
    (HGb0 : z = true → ∀ W, Rd W A n l → Calls Try.prog 13 #[.slice A n cap] W (Ans (.int .u64 y) W))
    (HPb0 : z = true → ∀ W, Calls Try.prog 9 #[.int .u64 y, .int .i64 (n : Int)] W (Puts l W))
    (hxv : x = v) :
    Calls Try.prog 4 #[.int .u64 v, .int .u8 a, .slice A n cap] w fun e w' => e = .returned (.bool true) ∧ Below w.heap.size w w' := by
  have HP := Lib.hid HP0
  have HPut := Lib.hid HPut0
  have HLow := Lib.hid HLow0
  have HGet := Lib.hid HGet0
  have HSz := Lib.hid HSz0
  have HGb := Lib.hid HGb0
  have HPb := Lib.hid HPb0
  subst hxv
  have HR := Lib.hid h
  have HLn := Lib.hid h.len
  have hid0 := Lib.hid (Below.refl w.heap.size w)
  clear h HP0 HPut0 HLow0 HGet0 HSz0 HGb0 HPb0
  go_enter Try.func4, Try.ntmps4
  go_wp2_with fail
  refine (awake_says _).mono ?_
  rintro e w1 ⟨rfl, hb⟩
  have hid1 := Lib.hid hb
  clear hb hid0
  go_wp2_with fail
  refine (HP.out _).mono ?_
  rintro e w2 ⟨rfl, hb⟩
  have hid2 := Lib.hid (below_step hid1.out hb)
  clear hb hid1
  go_wp2_with fail
  refine (HPut.out _).mono ?_
  rintro e w3 ⟨vp, rfl, hop, hb⟩
  obtain ⟨Ap, cp, rfl, hcp, hrp⟩ := Own.slice hop
  rw [bys_len] at hcp hrp ⊢
  have HRp := Lib.hid hrp
  have hid3 := Lib.hid (below_step hid2.out hb)
  clear hb hid2 hop hrp
  go_wp2_with fail
  refine (HGet.out _ _ _ HRp.out hcp).mono ?_
  rintro e w4 ⟨rfl, hb⟩
  have HRp4 := Lib.hid (HRp.out.below hb)
  have hid4 := Lib.hid (below_step hid3.out hb)
  clear hb hid3 HRp
  go_wp2_with fail
  refine (HLow.out _).mono ?_
  rintro e w5 ⟨rfl, hb⟩
  have HRp5 := Lib.hid (HRp4.out.below hb)
  have hid5 := Lib.hid (below_step hid4.out hb)
  clear hb hid4 HRp4
  go_wp2_with fail
  refine (HGet.out _ _ _ HRp5.out hcp).mono ?_
  rintro e w6 ⟨rfl, hb⟩
  have HRp6 := Lib.hid (HRp5.out.below hb)
  have hid6 := Lib.hid (below_step hid5.out hb)
  clear hb hid5 HRp5
  go_wp2_with fail
  have eB := Lib.hid hid6.out.drew
  have ep := Lib.hid (HRp6.out.below (Below.refl _ _).drew)
  have eb := Lib.hid (HR.out.below eB.out)
  clear hid6 HRp6
  refine wp_region_held_drew (S := (fun w' => (Below w.heap.size w w') ∧ (Rd w' A n l) ∧ (Rd w' Ap 8 (bys vn 8)))) (by kernel_rfl) (⟨eB.out, eb.out, ep.out⟩) (fun hHeld => ?_)
  refine Reg.take_yes (i := 0) (d := some 44) (v := ?v142) rfl rfl (by kernel_rfl) (by kernel_rfl) (by kernel_rfl) (fun _ _ _ h => h) (by rfl) ?y142 hHeld ?r142
  case y142 =>
    intro wS hS
    go_simp
    all_goals with_reducible rfl
  try simp only [Act.put, List.setIfInBounds_toArray, List.set_cons_zero, List.set_cons_succ]
  refine Reg.take_yes (i := 1) (d := some 45) (v := ?v143) rfl rfl (by kernel_rfl) (by kernel_rfl) (by kernel_rfl) (fun _ _ _ h => h) (by rfl) ?y143 hHeld ?r143
  case y143 =>
    intro wS hS
    go_simp
    all_goals with_reducible rfl
  try simp only [Act.put, List.setIfInBounds_toArray, List.set_cons_zero, List.set_cons_succ]
  refine Reg.take_yes (i := 2) (d := some 46) (v := ?v144) rfl rfl (by kernel_rfl) (by kernel_rfl) (by kernel_rfl) (fun _ _ _ h => h) (by rfl) ?y144 hHeld ?r144
  case y144 =>
    intro wS hS
    go_simp
    all_goals with_reducible rfl
  try simp only [Act.put, List.setIfInBounds_toArray, List.set_cons_zero, List.set_cons_succ]
  refine Reg.take_no (i := 3) (d := some 47) rfl rfl (by kernel_rfl) (by kernel_rfl) (by kernel_rfl) (fun _ _ _ h => h) (by rfl) hHeld ?_
  try simp only [Act.put, List.setIfInBounds_toArray, List.set_cons_zero, List.set_cons_succ]
  refine Reg.take_no (i := 4) (d := some 48) rfl rfl (by kernel_rfl) (by kernel_rfl) (by kernel_rfl) (fun _ _ _ h => h) (by rfl) hHeld ?_
  try simp only [Act.put, List.setIfInBounds_toArray, List.set_cons_zero, List.set_cons_succ]
  refine Reg.take_no (i := 5) (d := some 49) rfl rfl (by kernel_rfl) (by kernel_rfl) (by kernel_rfl) (fun _ _ _ h => h) (by rfl) hHeld ?_
  try simp only [Act.put, List.setIfInBounds_toArray, List.set_cons_zero, List.set_cons_succ]
  refine Reg.take_no (i := 6) (d := some 50) rfl rfl (by kernel_rfl) (by kernel_rfl) (by kernel_rfl) (fun _ _ _ h => h) (by rfl) hHeld ?_
  try simp only [Act.put, List.setIfInBounds_toArray, List.set_cons_zero, List.set_cons_succ]
  refine Reg.take_no (i := 7) (d := some 51) rfl rfl (by kernel_rfl) (by kernel_rfl) (by kernel_rfl) (fun _ _ _ h => h) (by rfl) hHeld ?_
  try simp only [Act.put, List.setIfInBounds_toArray, List.set_cons_zero, List.set_cons_succ]
  refine Reg.take_no (i := 8) (d := some 52) rfl rfl (by kernel_rfl) (by kernel_rfl) (by kernel_rfl) (fun _ _ _ h => h) (by rfl) hHeld ?_
  try simp only [Act.put, List.setIfInBounds_toArray, List.set_cons_zero, List.set_cons_succ]
  refine Reg.take_no (i := 9) (d := some 53) rfl rfl (by kernel_rfl) (by kernel_rfl) (by kernel_rfl) (fun _ _ _ h => h) (by rfl) hHeld ?_
  try simp only [Act.put, List.setIfInBounds_toArray, List.set_cons_zero, List.set_cons_succ]
  refine Reg.take_no (i := 10) (d := some 54) rfl rfl (by kernel_rfl) (by kernel_rfl) (by kernel_rfl) (fun _ _ _ h => h) (by rfl) hHeld ?_
  try simp only [Act.put, List.setIfInBounds_toArray, List.set_cons_zero, List.set_cons_succ]
  refine Reg.take_no (i := 11) (d := some 55) rfl rfl (by kernel_rfl) (by kernel_rfl) (by kernel_rfl) (fun _ _ _ h => h) (by rfl) hHeld ?_
  try simp only [Act.put, List.setIfInBounds_toArray, List.set_cons_zero, List.set_cons_succ]
  refine Reg.take_no (i := 12) (d := some 56) rfl rfl (by kernel_rfl) (by kernel_rfl) (by kernel_rfl) (fun _ _ _ h => h) (by rfl) hHeld ?_
  try simp only [Act.put, List.setIfInBounds_toArray, List.set_cons_zero, List.set_cons_succ]
  refine Reg.take_no (i := 13) (d := some 57) rfl rfl (by kernel_rfl) (by kernel_rfl) (by kernel_rfl) (fun _ _ _ h => h) (by rfl) hHeld ?_
  try simp only [Act.put, List.setIfInBounds_toArray, List.set_cons_zero, List.set_cons_succ]
  refine Reg.take_no (i := 14) (d := some 58) rfl rfl (by kernel_rfl) (by kernel_rfl) (by kernel_rfl) (fun _ _ _ h => h) (by rfl) hHeld ?_
  try simp only [Act.put, List.setIfInBounds_toArray, List.set_cons_zero, List.set_cons_succ]
  refine Reg.take_no (i := 15) (d := some 59) rfl rfl (by kernel_rfl) (by kernel_rfl) (by kernel_rfl) (fun _ _ _ h => h) (by rfl) hHeld ?_
  try simp only [Act.put, List.setIfInBounds_toArray, List.set_cons_zero, List.set_cons_succ]
  refine Reg.take_no (i := 16) (d := some 60) rfl rfl (by kernel_rfl) (by kernel_rfl) (by kernel_rfl) (fun _ _ _ h => h) (by rfl) hHeld ?_
  try simp only [Act.put, List.setIfInBounds_toArray, List.set_cons_zero, List.set_cons_succ]
  refine Reg.take_no (i := 17) (d := some 61) rfl rfl (by kernel_rfl) (by kernel_rfl) (by kernel_rfl) (fun _ _ _ h => h) (by rfl) hHeld ?_
  try simp only [Act.put, List.setIfInBounds_toArray, List.set_cons_zero, List.set_cons_succ]
  refine Reg.take_no (i := 18) (d := some 62) rfl rfl (by kernel_rfl) (by kernel_rfl) (by kernel_rfl) (fun _ _ _ h => h) (by rfl) hHeld ?_
  try simp only [Act.put, List.setIfInBounds_toArray, List.set_cons_zero, List.set_cons_succ]
  refine Reg.take_no (i := 19) (d := some 63) rfl rfl (by kernel_rfl) (by kernel_rfl) (by kernel_rfl) (fun _ _ _ h => h) (by rfl) hHeld ?_
  try simp only [Act.put, List.setIfInBounds_toArray, List.set_cons_zero, List.set_cons_succ]
  refine Reg.take_no (i := 20) (d := some 64) rfl rfl (by kernel_rfl) (by kernel_rfl) (by kernel_rfl) (fun _ _ _ h => h) (by rfl) hHeld ?_
  try simp only [Act.put, List.setIfInBounds_toArray, List.set_cons_zero, List.set_cons_succ]
  refine Reg.take_no (i := 21) (d := some 65) rfl rfl (by kernel_rfl) (by kernel_rfl) (by kernel_rfl) (fun _ _ _ h => h) (by rfl) hHeld ?_
  try simp only [Act.put, List.setIfInBounds_toArray, List.set_cons_zero, List.set_cons_succ]
  refine Reg.take_no (i := 22) (d := some 66) rfl rfl (by kernel_rfl) (by kernel_rfl) (by kernel_rfl) (fun _ _ _ h => h) (by rfl) hHeld ?_
  try simp only [Act.put, List.setIfInBounds_toArray, List.set_cons_zero, List.set_cons_succ]
  refine Reg.take_no (i := 23) (d := some 67) rfl rfl (by kernel_rfl) (by kernel_rfl) (by kernel_rfl) (fun _ _ _ h => h) (by rfl) hHeld ?_
  try simp only [Act.put, List.setIfInBounds_toArray, List.set_cons_zero, List.set_cons_succ]
  refine Reg.take_no (i := 24) (d := some 68) rfl rfl (by kernel_rfl) (by kernel_rfl) (by kernel_rfl) (fun _ _ _ h => h) (by rfl) hHeld ?_
  try simp only [Act.put, List.setIfInBounds_toArray, List.set_cons_zero, List.set_cons_succ]
  refine Reg.take_no (i := 25) (d := some 69) rfl rfl (by kernel_rfl) (by kernel_rfl) (by kernel_rfl) (fun _ _ _ h => h) (by rfl) hHeld ?_
  try simp only [Act.put, List.setIfInBounds_toArray, List.set_cons_zero, List.set_cons_succ]
  refine Reg.take_no (i := 26) (d := some 70) rfl rfl (by kernel_rfl) (by kernel_rfl) (by kernel_rfl) (fun _ _ _ h => h) (by rfl) hHeld ?_
  try simp only [Act.put, List.setIfInBounds_toArray, List.set_cons_zero, List.set_cons_succ]
  refine Reg.take_no (i := 27) (d := some 71) rfl rfl (by kernel_rfl) (by kernel_rfl) (by kernel_rfl) (fun _ _ _ h => h) (by rfl) hHeld ?_
  try simp only [Act.put, List.setIfInBounds_toArray, List.set_cons_zero, List.set_cons_succ]
  refine Reg.take_no (i := 28) (d := some 72) rfl rfl (by kernel_rfl) (by kernel_rfl) (by kernel_rfl) (fun _ _ _ h => h) (by rfl) hHeld ?_
  try simp only [Act.put, List.setIfInBounds_toArray, List.set_cons_zero, List.set_cons_succ]
  refine Reg.take_no (i := 29) (d := some 73) rfl rfl (by kernel_rfl) (by kernel_rfl) (by kernel_rfl) (fun _ _ _ h => h) (by rfl) hHeld ?_
  try simp only [Act.put, List.setIfInBounds_toArray, List.set_cons_zero, List.set_cons_succ]
  refine Reg.take_yes (i := 30) (d := some 74) (v := ?v145) rfl rfl (by kernel_rfl) (by kernel_rfl) (by kernel_rfl) (fun _ _ _ h => h) (by rfl) ?y145 hHeld ?r145
  case y145 =>
    intro wS hS
    go_simp
    all_goals with_reducible rfl
  try simp only [Act.put, List.setIfInBounds_toArray, List.set_cons_zero, List.set_cons_succ]
  refine wpAnyH_done (by kernel_rfl) ?_ _
  obtain ⟨sB, sb, sp⟩ := hHeld
  go_wp2_with fail
  have eB9 := Lib.hid sB.drew
  have eb9 := Lib.hid (sb.below (Below.refl _ _).drew)
  clear sB sb sp eB eb ep
  cases z with
  | false =>
    refine wp_region_held_drew (S := (fun w' => (Below w.heap.size w w') ∧ (Rd w' A n l))) (by kernel_rfl) (⟨eB9.out, eb9.out⟩) (fun hHeld => ?_)
    refine Reg.take_yes (i := 0) (d := some 75) (v := ?v146) rfl rfl (by kernel_rfl) (by kernel_rfl) (by kernel_rfl) (fun _ _ _ h => h) (by rfl) ?y146 hHeld ?r146
    case y146 =>
      intro wS hS
      go_simp
      all_goals with_reducible rfl
    try simp only [Act.put, List.setIfInBounds_toArray, List.set_cons_zero, List.set_cons_succ]
    refine Reg.take_yes (i := 1) (d := some 76) (v := ?v147) rfl rfl (by kernel_rfl) (by kernel_rfl) (by kernel_rfl) (fun _ _ _ h => h) (by rfl) ?y147 hHeld ?r147
    case y147 =>
      intro wS hS
      go_simp
      all_goals with_reducible rfl
    try simp only [Act.put, List.setIfInBounds_toArray, List.set_cons_zero, List.set_cons_succ]
    refine wpAnyH_ready (rs := [2]) (by kernel_rfl) (by simp) ?_
    refine Reg.cons_yes rfl (by rfl) (fun K hK => ?_) ?_
    · go_simp
      have hH := hHeld
      obtain ⟨sB, sb⟩ := hH
      refine (HSz.out _).mono ?_
      rintro e wA ⟨rfl, hb⟩
      refine hK.out _ _ (⟨below_step sB hb, sb.below hb⟩) (fun hHeld => ?_)
      clear hK K sB sb
      try simp only [Act.put, List.setIfInBounds_toArray, List.set_cons_zero, List.set_cons_succ]
      refine Reg.take_yes (i := 3) (d := some 78) (v := ?v148) rfl rfl (by kernel_rfl) (by kernel_rfl) (by kernel_rfl) (fun _ _ _ h => h) (by rfl) ?y148 hHeld ?r148
      case y148 =>
        intro wS hS
        go_simp
        all_goals with_reducible rfl
      try simp only [Act.put, List.setIfInBounds_toArray, List.set_cons_zero, List.set_cons_succ]
      refine Reg.take_yes (i := 4) (d := some 79) (v := ?v149) rfl rfl (by kernel_rfl) (by kernel_rfl) (by kernel_rfl) (fun _ _ _ h => h) (by rfl) ?y149 hHeld ?r149
      case y149 =>
        intro wS hS
        go_simp
        all_goals with_reducible rfl
      try simp only [Act.put, List.setIfInBounds_toArray, List.set_cons_zero, List.set_cons_succ]
      refine Reg.take_no (i := 5) (d := some 80) rfl rfl (by kernel_rfl) (by kernel_rfl) (by kernel_rfl) (fun _ _ _ h => h) (by rfl) hHeld ?_
      try simp only [Act.put, List.setIfInBounds_toArray, List.set_cons_zero, List.set_cons_succ]
      refine Reg.take_no (i := 6) (d := some 81) rfl rfl (by kernel_rfl) (by kernel_rfl) (by kernel_rfl) (fun _ _ _ h => h) (by rfl) hHeld ?_
      try simp only [Act.put, List.setIfInBounds_toArray, List.set_cons_zero, List.set_cons_succ]
      refine Reg.take_no (i := 7) (d := some 82) rfl rfl (by kernel_rfl) (by kernel_rfl) (by kernel_rfl) (fun _ _ _ h => h) (by rfl) hHeld ?_
      try simp only [Act.put, List.setIfInBounds_toArray, List.set_cons_zero, List.set_cons_succ]
      refine Reg.take_no (i := 8) (d := some 83) rfl rfl (by kernel_rfl) (by kernel_rfl) (by kernel_rfl) (fun _ _ _ h => h) (by rfl) hHeld ?_
      try simp only [Act.put, List.setIfInBounds_toArray, List.set_cons_zero, List.set_cons_succ]
      refine Reg.take_no (i := 9) (d := some 84) rfl rfl (by kernel_rfl) (by kernel_rfl) (by kernel_rfl) (fun _ _ _ h => h) (by rfl) hHeld ?_
      try simp only [Act.put, List.setIfInBounds_toArray, List.set_cons_zero, List.set_cons_succ]
      refine Reg.take_no (i := 10) (d := some 85) rfl rfl (by kernel_rfl) (by kernel_rfl) (by kernel_rfl) (fun _ _ _ h => h) (by rfl) hHeld ?_
      try simp only [Act.put, List.setIfInBounds_toArray, List.set_cons_zero, List.set_cons_succ]
      refine Reg.take_no (i := 11) (d := some 86) rfl rfl (by kernel_rfl) (by kernel_rfl) (by kernel_rfl) (fun _ _ _ h => h) (by rfl) hHeld ?_
      try simp only [Act.put, List.setIfInBounds_toArray, List.set_cons_zero, List.set_cons_succ]
      refine Reg.take_no (i := 12) (d := some 87) rfl rfl (by kernel_rfl) (by kernel_rfl) (by kernel_rfl) (fun _ _ _ h => h) (by rfl) hHeld ?_
      try simp only [Act.put, List.setIfInBounds_toArray, List.set_cons_zero, List.set_cons_succ]
      refine Reg.take_no (i := 13) (d := some 88) rfl rfl (by kernel_rfl) (by kernel_rfl) (by kernel_rfl) (fun _ _ _ h => h) (by rfl) hHeld ?_
      try simp only [Act.put, List.setIfInBounds_toArray, List.set_cons_zero, List.set_cons_succ]
      refine Reg.take_yes (i := 14) (d := some 89) (v := ?v150) rfl rfl (by kernel_rfl) (by kernel_rfl) (by kernel_rfl) (fun _ _ _ h => h) (by rfl) ?y150 hHeld ?r150
      case y150 =>
        intro wS hS
        go_simp
        all_goals with_reducible rfl
      try simp only [Act.put, List.setIfInBounds_toArray, List.set_cons_zero, List.set_cons_succ]
      refine Reg.take_yes (i := 15) (d := some 6) (v := ?v151) rfl rfl (by kernel_rfl) (by kernel_rfl) (by kernel_rfl) (fun _ _ _ h => h) (by rfl) ?y151 hHeld ?r151
      case y151 =>
        intro wS hS
        go_simp
        all_goals with_reducible rfl
      try simp only [Act.put, List.setIfInBounds_toArray, List.set_cons_zero, List.set_cons_succ]
      refine wpAnyH_done (by kernel_rfl) ?_ _
      obtain ⟨sB, sb⟩ := hHeld
      go_wp2_with fail
      go_ret
      exact ⟨rfl, sB⟩
    exact AllReadyH.nil
  | true =>
    have HG := Lib.hid (HGb.out rfl)
    have HPB := Lib.hid (HPb.out rfl)
    refine wp_region_held_drew (S := (fun w' => (Below w.heap.size w w') ∧ (Rd w' A n l))) (by kernel_rfl) (⟨eB9.out, eb9.out⟩) (fun hHeld => ?_)
    refine Reg.take_yes (i := 0) (d := some 75) (v := ?v152) rfl rfl (by kernel_rfl) (by kernel_rfl) (by kernel_rfl) (fun _ _ _ h => h) (by rfl) ?y152 hHeld ?r152
    case y152 =>
      intro wS hS
      go_simp
      all_goals with_reducible rfl
    try simp only [Act.put, List.setIfInBounds_toArray, List.set_cons_zero, List.set_cons_succ]
    refine Reg.take_yes (i := 1) (d := some 76) (v := ?v153) rfl rfl (by kernel_rfl) (by kernel_rfl) (by kernel_rfl) (fun _ _ _ h => h) (by rfl) ?y153 hHeld ?r153
    case y153 =>
      intro wS hS
      go_simp
      all_goals with_reducible rfl
    try simp only [Act.put, List.setIfInBounds_toArray, List.set_cons_zero, List.set_cons_succ]
    refine wpAnyH_ready (rs := [2]) (by kernel_rfl) (by simp) ?_
    refine Reg.cons_yes rfl (by rfl) (fun K hK => ?_) ?_
    · go_simp
      have hH := hHeld
      obtain ⟨sB, sb⟩ := hH
      refine (HSz.out _).mono ?_
      rintro e wA ⟨rfl, hb⟩
      refine hK.out _ _ (⟨below_step sB hb, sb.below hb⟩) (fun hHeld => ?_)
      clear hK K sB sb
      try simp only [Act.put, List.setIfInBounds_toArray, List.set_cons_zero, List.set_cons_succ]
      refine Reg.take_yes (i := 3) (d := some 78) (v := ?v154) rfl rfl (by kernel_rfl) (by kernel_rfl) (by kernel_rfl) (fun _ _ _ h => h) (by rfl) ?y154 hHeld ?r154
      case y154 =>
        intro wS hS
        go_simp
        all_goals with_reducible rfl
      try simp only [Act.put, List.setIfInBounds_toArray, List.set_cons_zero, List.set_cons_succ]
      refine Reg.take_yes (i := 4) (d := some 79) (v := ?v155) rfl rfl (by kernel_rfl) (by kernel_rfl) (by kernel_rfl) (fun _ _ _ h => h) (by rfl) ?y155 hHeld ?r155
      case y155 =>
        intro wS hS
        go_simp
        all_goals with_reducible rfl
      try simp only [Act.put, List.setIfInBounds_toArray, List.set_cons_zero, List.set_cons_succ]
      refine Reg.take_yes (i := 5) (d := some 80) (v := ?v156) rfl rfl (by kernel_rfl) (by kernel_rfl) (by kernel_rfl) (fun _ _ _ h => h) (by rfl) ?y156 hHeld ?r156
      case y156 =>
        intro wS hS
        go_simp
        all_goals with_reducible rfl
      try simp only [Act.put, List.setIfInBounds_toArray, List.set_cons_zero, List.set_cons_succ]
      refine Reg.take_yes (i := 7) (d := some 82) (v := ?v157) rfl rfl (by kernel_rfl) (by kernel_rfl) (by kernel_rfl) (fun _ _ _ h => h) (by rfl) ?y157 hHeld ?r157
      case y157 =>
        intro wS hS
        go_simp
        all_goals with_reducible rfl
      try simp only [Act.put, List.setIfInBounds_toArray, List.set_cons_zero, List.set_cons_succ]
      refine Reg.take_yes (i := 8) (d := some 83) (v := ?v158) rfl rfl (by kernel_rfl) (by kernel_rfl) (by kernel_rfl) (fun _ _ _ h => h) (by rfl) ?y158 hHeld ?r158
      case y158 =>
        intro wS hS
        go_simp
        all_goals with_reducible rfl
      try simp only [Act.put, List.setIfInBounds_toArray, List.set_cons_zero, List.set_cons_succ]
      refine Reg.take_yes (i := 11) (d := some 86) (v := ?v159) rfl rfl (by kernel_rfl) (by kernel_rfl) (by kernel_rfl) (fun _ _ _ h => h) (by rfl) ?y159 hHeld ?r159
      case y159 =>
        intro wS hS
        go_simp
        all_goals with_reducible rfl
      try simp only [Act.put, List.setIfInBounds_toArray, List.set_cons_zero, List.set_cons_succ]
      refine Reg.take_yes (i := 12) (d := some 87) (v := ?v160) rfl rfl (by kernel_rfl) (by kernel_rfl) (by kernel_rfl) (fun _ _ _ h => h) (by rfl) ?y160 hHeld ?r160
      case y160 =>
        intro wS hS
        obtain ⟨sB, sb⟩ := hS
        have hc := str_of sb cap
        go_simp
        all_goals with_reducible rfl
      try simp only [Act.put, List.setIfInBounds_toArray, List.set_cons_zero, List.set_cons_succ]
      refine wpAnyH_ready (rs := [6]) (by kernel_rfl) (by simp) ?_
      refine Reg.cons_yes rfl (by rfl) (fun K hK => ?_) ?_
      · go_simp
        have hH := hHeld
        obtain ⟨sB, sb⟩ := hH
        refine (HG.out _ sb).mono ?_
        rintro e wA ⟨rfl, hb⟩
        refine hK.out _ _ (⟨below_step sB hb, sb.below hb⟩) (fun hHeld => ?_)
        clear hK K sB sb
        try simp only [Act.put, List.setIfInBounds_toArray, List.set_cons_zero, List.set_cons_succ]
        refine wpAnyH_ready (rs := [9]) (by kernel_rfl) (by simp) ?_
        refine Reg.cons_yes rfl (by rfl) (fun K hK => ?_) ?_
        · go_simp
          have hH := hHeld
          obtain ⟨sB, sb⟩ := hH
          refine (HPB.out _).mono ?_
          rintro e wA ⟨r, rfl, hor, hb⟩
          obtain ⟨Ad, cd, rfl, _, hrr⟩ := Own.slice hor
          rw [HLn.out] at hrr ⊢
          clear hor
          refine hK.out _ _ (⟨below_step sB hb, sb.below hb⟩) (fun hHeld => ?_)
          have hHeld := (show (fun w' => (Rd w' Ad n (l)) ∧ (Below w.heap.size w w') ∧ (Rd w' A n l)) _ from ⟨hrr, hHeld⟩)
          refine Reg.imp (S' := (fun w' => (Rd w' Ad n (l)) ∧ (Below w.heap.size w w') ∧ (Rd w' A n l))) (fun _ hh => hh.2) _ _ _ _ ?_
          clear hK K sB sb
          try simp only [Act.put, List.setIfInBounds_toArray, List.set_cons_zero, List.set_cons_succ]
          refine Reg.take_yes (i := 10) (d := some 85) (v := ?v161) rfl rfl (by kernel_rfl) (by kernel_rfl) (by kernel_rfl) (fun _ _ _ h => h) (by rfl) ?y161 hHeld ?r161
          case y161 =>
            intro wS hS
            obtain ⟨sd, sB, sb⟩ := hS
            have hc := str_of sd cd
            go_simp
            all_goals with_reducible rfl
          try simp only [Act.put, List.setIfInBounds_toArray, List.set_cons_zero, List.set_cons_succ]
          refine Reg.take_yes (i := 13) (d := some 88) (v := ?v162) rfl rfl (by kernel_rfl) (by kernel_rfl) (by kernel_rfl) (fun _ _ _ h => h) (by rfl) ?y162 hHeld ?r162
          case y162 =>
            intro wS hS
            go_simp
            all_goals with_reducible rfl
          try simp only [Act.put, List.setIfInBounds_toArray, List.set_cons_zero, List.set_cons_succ]
          refine Reg.take_yes (i := 14) (d := some 89) (v := ?v163) rfl rfl (by kernel_rfl) (by kernel_rfl) (by kernel_rfl) (fun _ _ _ h => h) (by rfl) ?y163 hHeld ?r163
          case y163 =>
            intro wS hS
            go_simp
            all_goals with_reducible rfl
          try simp only [Act.put, List.setIfInBounds_toArray, List.set_cons_zero, List.set_cons_succ]
          refine Reg.take_yes (i := 15) (d := some 6) (v := ?v164) rfl rfl (by kernel_rfl) (by kernel_rfl) (by kernel_rfl) (fun _ _ _ h => h) (by rfl) ?y164 hHeld ?r164
          case y164 =>
            intro wS hS
            go_simp
            all_goals with_reducible rfl
          try simp only [Act.put, List.setIfInBounds_toArray, List.set_cons_zero, List.set_cons_succ]
          refine wpAnyH_done (by kernel_rfl) ?_ _
          obtain ⟨sd, sB, sb⟩ := hHeld
          go_wp2_with fail
          go_ret
          exact ⟨rfl, sB⟩
        exact AllReadyH.nil
      exact AllReadyH.nil
    exact AllReadyH.nil
theorem get_bys (v s : Nat) (hs : s ≤ 8) (W : World) (A : Option Addr) (c : Nat) (h : Rd W A s (bys v s)) (hc : s ≤ c) : Calls Try.prog 13 #[.slice A s c] W (Ans (.int .u64 ((v % 256 ^ s : Nat) : Int)) W) := by
  have := get_says A s c (bys v s) (bys_lt v s) W h hc
  rw [List.take_of_length_le (by rw [bys_len]; exact hs), val_bys] at this
  exact this
theorem val_small (l : List Nat) (hl : ∀ x ∈ l, x < 256) (h : l.length ≤ 8) : val l < 18446744073709551616 := by
  have := val8_lt l hl
  rwa [List.take_of_length_le h] at this
theorem pos (vn : Int) (v : Nat) (A : Option Addr) (n cap : Nat) (l : List Nat) (a : Int) (w : World) (hvn : vn = (v : Int)) (hv : v < 18446744073709551616) (h : Rd w A n l) (hc : n ≤ cap) (hl : ∀ x ∈ l, x < 256) (h0 : 0 ≤ a) (h1 : a ≤ 255) (hn : n ≤ 8) :
    Calls Try.prog 4 #[.int .u64 vn, .int .u8 a, .slice A n cap] w fun e w' => e = .returned (.bool true) ∧ Below w.heap.size w w' := by
  subst hvn
  obtain ⟨s, hs, hp⟩ := pick_says a h0 h1
  have hlen := h.len
  have hgb : ∀ W, Rd W A n l → Calls Try.prog 13 #[.slice A n cap] W (Ans (.int .u64 ((val l : Nat) : Int)) W) := fun W hr => by
    have := get_says A n cap l hl W hr hc
    rwa [List.take_of_length_le (by omega)] at this
  have hpb : ∀ W, Calls Try.prog 9 #[.int .u64 ((val l : Nat) : Int), .int .i64 (n : Int)] W (Puts l W) := fun W => by
    have := put_says (val l) n (val_small l hl (by omega)) hn W
    have e : bys (val l) n = l := by rw [← hlen]; exact bys_val l hl
    rw [e] at this
    exact this
  rcases hs with rfl | rfl | rfl | rfl
  · exact walk1 (v : Int) ((v % 256 : Nat) : Int) ((v / 256 : Nat) : Int) _ a v (v / 256) _ A n cap l w h hc hn hp (put_says v 1 hv (by omega)) (low_says v 1 hv (by omega)) (fun W A c h hc => get_bys v 1 (by omega) W A c h hc) (rsize_says (n : Int)) (fun _ => hgb) (fun _ => hpb)
      (put_says v 2 hv (by omega)) (put_says (v / 256) 1 (by omega) (by omega)) (by rw [← str_app]; exact congrArg str (bys_app v 1 1)) (by omega) (by omega) (by omega) (by omega)
  · exact walk2 (v : Int) ((v % 65536 : Nat) : Int) ((v / 65536 : Nat) : Int) _ a v (v / 65536) _ A n cap l w h hc hn hp (put_says v 2 hv (by omega)) (low_says v 2 hv (by omega)) (fun W A c h hc => get_bys v 2 (by omega) W A c h hc) (rsize_says (n : Int)) (fun _ => hgb) (fun _ => hpb)
      (put_says v 4 hv (by omega)) (put_says (v / 65536) 2 (by omega) (by omega)) (by rw [← str_app]; exact congrArg str (bys_app v 2 2)) (by omega) (by omega) (by omega) (by omega)
  · exact walk4 (v : Int) ((v % 4294967296 : Nat) : Int) ((v / 4294967296 : Nat) : Int) _ a v (v / 4294967296) _ A n cap l w h hc hn hp (put_says v 4 hv (by omega)) (low_says v 4 hv (by omega)) (fun W A c h hc => get_bys v 4 (by omega) W A c h hc) (rsize_says (n : Int)) (fun _ => hgb) (fun _ => hpb)
      (put_says v 8 hv (by omega)) (put_says (v / 4294967296) 4 (by omega) (by omega)) (by rw [← str_app]; exact congrArg str (bys_app v 4 4)) (by omega) (by omega) (by omega) (by omega)
  · exact walk8 (v : Int) (v : Int) 0 _ a v 0 _ A n cap l w h hc hn hp (put_says v 8 hv (by omega)) (fun W => by have := low_says v 8 hv (by omega) W; rwa [Nat.mod_eq_of_lt (by omega)] at this) (fun W A c h hc => by have := get_bys v 8 (by omega) W A c h hc; rwa [Nat.mod_eq_of_lt (by omega)] at this) (rsize_says (n : Int)) (fun _ => hgb) (fun _ => hpb) rfl
set_option maxRecDepth 100000 in
theorem far (vn : Int) (A : Option Addr) (n cap : Nat) (a : Int) (w : World) (hn : 8 < n) :
    Calls Try.prog 4 #[.int .u64 vn, .int .u8 a, .slice A n cap] w fun e w' => e = .returned (.bool true) ∧ Below w.heap.size w w' := by
  have hn' : (8 : Int) < (n : Int) := by omega
  go_enter Try.func4, Try.ntmps4
  go_wp2_with fail
  refine (awake_says _).mono ?_
  rintro e w1 ⟨rfl, hb⟩
  have hid1 := Lib.hid hb
  clear hb
  go_wp2_with fail
  refine (awake_says _).mono ?_
  rintro e w2 ⟨rfl, hb⟩
  have hid2 := Lib.hid (below_step hid1.out hb)
  clear hb hid1
  go_wp2_with fail
  go_ret
  exact ⟨rfl, hid2.out⟩
theorem calls (vn a : Int) (A : Option Addr) (len cap : Nat) (zs : List Int) (w : World) (h0 : (Lit.int .u64 vn).wf = true) (h1 : (Lit.int .u8 a).wf = true)
    (hr : (A = none ∧ len = 0 ∧ cap = 0 ∧ zs = []) ∨ ∃ x, A = some x ∧ len ≤ cap ∧ cap ≤ maxLen ∧ zs.length = cap ∧ (∀ i, i < zs.length → w.cell? (x.add i) = some (.int .u8 (zs.getD i 0))) ∧ ∀ n ∈ zs, (Lit.int .u8 n).wf = true) :
    Calls Try.prog 4 #[.int .u64 vn, .int .u8 a, .slice A len cap] w fun e w' => e = .returned (.bool true) ∧ Below w.heap.size w w' := by
  obtain ⟨l, rfl, hr, _, hw, hc⟩ := ReadsInt.ofRowC hr
  obtain ⟨b, rfl, hb⟩ := nats_of l hw
  obtain ⟨a0, a1⟩ := u8_of a h1
  obtain ⟨v, hv, hv2⟩ := u64_of vn h0
  by_cases hn : 8 < (up b).length
  · exact far vn A _ cap a w hn
  · exact pos vn v A _ cap b a w hv hv2 hr hc hb a0 a1 (by omega)
end Go.Proofs.Ythfmhcbeodjffaa.BytesBack
