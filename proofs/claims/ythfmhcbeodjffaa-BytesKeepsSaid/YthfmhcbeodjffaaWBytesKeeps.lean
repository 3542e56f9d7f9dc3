/- BytesKeeps, the walk, over the contracts of what it calls. -/
import Derived.Test.YthfmhcbeodjffaaBytesW
import Derived.Test.YthfmhcbeodjffaaReg
import Derived.WalkSpells
import Derived.Lib.Hide
set_option linter.unusedVariables false
set_option linter.unusedSimpArgs false
namespace Go.Proofs.Ythfmhcbeodjffaa.BytesKeeps
open Go.RowKit Go.Proofs.YthfmhcbeodjffaaW.PrintWords Go.Proofs.Ythfmhcbeodjffaa.Bits Go.Proofs.Ythfmhcbeodjffaa.BytesW Go.Proofs.Ythfmhcbeodjffaa.PBytesPuts

theorem info5 : (Try.prog.info? 5).map (fun i => (i.zero, i.size, i.bytes)) = some (some (.int .u8 0), 1, 1) := by kernel_rfl
/-- A row of the call's own that holds something: its block. -/
theorem block_of {w : World} {base n : Nat} {v : Value} {xs : List Value} (h : w.ownsRow base 5 1 v n xs) (hn : 0 < n) : ∃ g cap, v = .slice (some ⟨g, 0, none⟩) n cap ∧ base ≤ g ∧ g < w.heap.size := by
  rcases h.2 with ⟨_, h0⟩ | ⟨g, cap, cur, rfl, hg, hh, _⟩
  · omega
  · exact ⟨g, cap, rfl, hg, (Array.getElem?_eq_some_iff.1 hh).1⟩
/-- What holds while the bytes are raised: the block gp alone is written. -/
def KRel (w6 : World) (base gp cp s b2 : Nat) (vq : Value) (q : List Nat) (i : Value) (wr : World) : Prop :=
  ∃ (k : Nat) (xs : List Int), k ≤ s ∧ i = .int .i64 (k : Int) ∧ wr.ownsRow base 5 1 (.slice (some ⟨gp, 0, none⟩) s cp) s (nums .u8 xs) ∧ Own wr b2 vq q ∧ Below w6.heap.size w6 wr
set_option maxRecDepth 100000 in
set_option maxHeartbeats 4000000 in
theorem pos (vn : Int) (v : Nat) (A : Option Addr) (n cap : Nat) (l : List Nat) (a : Int) (w : World) (hvn : vn = (v : Int)) (hv : v < 18446744073709551616) (h : Rd w A n l) (hc : n ≤ cap) (hl : ∀ x ∈ l, x < 256) (h0 : 0 ≤ a) (h1 : a ≤ 255) (hn : n ≤ 100) :
    Calls Try.prog 5 #[.int .u64 vn, .int .u8 a, .slice A n cap] w fun e w' => e = .returned (.bool true) ∧ Below w.heap.size w w' := by
  subst hvn
  obtain ⟨s, hs, hp⟩ := pick_says a h0 h1
  have hs1 : 1 ≤ s := by omega
  have hs8 : s ≤ 8 := by omega
  have hv := Lib.hid hv
  have HL := Lib.hid hl
  have HR := Lib.hid h
  have HP := Lib.hid hp
  have HLn := Lib.hid h.len
  have hid0 := Lib.hid (Below.refl w.heap.size w)
  clear h hl hs hp
  go_enter Try.func5, Try.ntmps5
  go_wp2_with fail
  refine (awake_says _).mono ?_
  rintro e w1 ⟨rfl, hb⟩
  have hid1 := Lib.hid hb
  clear hb hid0
  go_wp2_with fail
  refine (HP.out _).mono ?_
  rintro e w2 ⟨rfl, hb⟩
  have hid2 := Lib.hid (below_step hid1.out hb)
  clear hb hid1
  have hz2 := hid2.out.size
  have hln := HLn.out
  go_upto_region 5 with (at_builtin; refine print_append_row (w0 := w) w.heap.size rfl (.tmp 22) (.tmp 23) 23 5 .u8 1 rfl Try.underlying23 info5 (by decide) _ [] (up l) A n cap rfl rfl (own_lit w2 w.heap.size 5 .u8 [] hid2.out.size (by decide)) (ReadsInt.allocS (HR.out.below hid2.out) _) (below_alloc hid2.out _) ?_ ?_ ?_; (simp; omega); (simp; omega); intro v1 w4 hown1 hbel1 hgrow1 hat1; simp only [List.nil_append] at hown1; clear hgrow1 hat1)
  clear hz2
  obtain ⟨Ao, co, rfl, hco, hro⟩ := Own.slice (show Own w4 w.heap.size v1 l from hown1)
  rw [hln] at hco hro ⊢
  have HRo := Lib.hid hro
  have hid4 := Lib.hid hbel1
  clear hown1 hbel1 hro hid2
  go_wp2_with fail
  refine (get_says Ao n co l HL.out _ HRo.out hco).mono ?_
  rintro e w6 ⟨rfl, hb⟩
  have hid6 := Lib.hid (below_step hid4.out hb)
  have HRo6 := Lib.hid (HRo.out.below hb)
  clear hb hid4 HRo
  go_wp2_with fail
  refine (put_says v s hv.out hs8 _).mono ?_
  rintro e w7 ⟨vp, rfl, hop, hb7⟩
  have hop' : w7.ownsRow w6.heap.size 5 1 vp s (nums .u8 (up (bys v s))) := by have := hop; unfold Own at this; rwa [up_len, bys_len] at this
  obtain ⟨gp, cp, rfl, hgp, hgl⟩ := block_of hop' (by omega)
  have HOp := Lib.hid hop'
  have hid7 := Lib.hid hb7
  have hgl7 := Lib.hid hgl
  have hgp6 := Lib.hid hgp
  clear hop hop' hb7 hgp hgl
  go_wp2_with fail
  refine (put_says v s hv.out hs8 _).mono ?_
  rintro e w8 ⟨vq, rfl, hoq, hb8⟩
  have hoq' : w8.ownsRow w7.heap.size 5 1 vq s (nums .u8 (up (bys v s))) := by have := hoq; unfold Own at this; rwa [up_len, bys_len] at this
  obtain ⟨gq, cq, rfl, hgq, hgql⟩ := block_of hoq' (by omega)
  have S0 := Lib.hid (show KRel w6 w6.heap.size gp cp s w7.heap.size (.slice (some ⟨gq, 0, none⟩) s cq) (bys v s) (.int .i64 0) w8 from ⟨0, _, by omega, rfl, pw_own_below HOp.out hb8, hoq, below_step hid7.out hb8⟩)
  have hne := Lib.hid (show gp ≠ gq by have := hgl7.out; omega)
  clear hoq hoq' hb8 hgq hgql hgl7 HOp hid7
  go_wp2_with fail
  go_loopw [11] (fun i wr => KRel w6 w6.heap.size gp cp s w7.heap.size (.slice (some ⟨gq, 0, none⟩) s cq) (bys v s) i wr) (fun i _ => s - (intOf i).toNat)
  case atStart => exact S0.out
  case round =>
    obtain ⟨k, xs, hk, rfl, hox, hoq, hbr⟩ := hrel
    clear S0
    have HX := Lib.hid hox
    have HQ := Lib.hid hoq
    have HB := Lib.hid hbr
    clear hox hoq hbr
    by_cases hks : k < s
    · have hks' : (k : Int) < (s : Int) := by omega
      have hlen : xs.length = s := by have := HX.out.1; simpa [nums] using this
      have hcell := HX.out.cellAt k (by omega)
      rw [show (nums .u8 xs)[k]? = some (.int .u8 (xs.getD k 0)) by simp [nums, List.getD_eq_getElem?_getD, List.getElem?_eq_getElem (show k < xs.length by omega)]] at hcell
      obtain ⟨y, hy⟩ : ∃ y, y = xs.getD k 0 := ⟨_, rfl⟩
      rw [← hy] at hcell
      have hfr := HX.out.frozenAt k
      clear hlen hy
      go_wp2_with fail
      go_roundw
      case rel => exact ⟨k + 1, _, by omega, by go_num, (own_store HX.out (k : Int) _).1, own_setCell HQ.out (by simp [Value.ownBlock]; exact hne.out) _, HB.out.setCell (by simpa using hgp6.out) _⟩
      case measure => simp [intOf]; omega
    · obtain rfl : s = k := by omega
      clear hk hks
      obtain ⟨Aq, cq', hAq, hcq, hrq⟩ := Own.slice HQ.out
      rw [bys_len] at hAq hrq
      simp only [Value.slice.injEq, true_and] at hAq
      obtain ⟨rfl, rfl⟩ := hAq
      have eB := Lib.hid (below_then hid6.out hid6.out.size HB.out)
      have eb := Lib.hid (HR.out.below eB.out)
      have eo := Lib.hid (HRo6.out.below HB.out)
      have eq := Lib.hid hrq
      obtain ⟨Aq, hAq⟩ : ∃ Aq, Aq = (some ⟨gq, 0, none⟩ : Option Addr) := ⟨_, rfl⟩
      rw [← hAq] at eq ⊢
      clear HX HQ HB hrq hcq HRo6 hid6 hAq hne hgp6
      go_upto_region 12 with (fail)
      refine wp_region_held_drew (S := (fun w' => Below w.heap.size w w' ∧ Rd w' A n l ∧ Rd w' Ao n l ∧ Rd w' Aq s (bys v s))) (by kernel_rfl) (⟨eB.out.drew, eb.out.below (Below.refl _ _).drew, eo.out.below (Below.refl _ _).drew, eq.out.below (Below.refl _ _).drew⟩) (fun hHeld => ?_)
      refine Reg.take_yes (i := 0) (d := some 45) (v := ?v2) rfl rfl (by kernel_rfl) (by kernel_rfl) (by kernel_rfl) (fun _ _ _ h => h) (by rfl) ?y2 hHeld ?r2
      case y2 =>
        intro wS hS
        go_simp
        all_goals with_reducible rfl
      try simp only [Act.put, List.setIfInBounds_toArray, List.set_cons_zero, List.set_cons_succ]
      refine Reg.take_yes (i := 1) (d := some 46) (v := ?v3) rfl rfl (by kernel_rfl) (by kernel_rfl) (by kernel_rfl) (fun _ _ _ h => h) (by rfl) ?y3 hHeld ?r3
      case y3 =>
        intro wS hS
        obtain ⟨sB, sb, so, sq⟩ := hS
        have hc := string_of_reads Try.underlying23 Try.underlying5 Try.underlying9 (c := co) so
        go_simp
        all_goals with_reducible rfl
      try simp only [Act.put, List.setIfInBounds_toArray, List.set_cons_zero, List.set_cons_succ]
      refine Reg.take_yes (i := 2) (d := some 47) (v := ?v4) rfl rfl (by kernel_rfl) (by kernel_rfl) (by kernel_rfl) (fun _ _ _ h => h) (by rfl) ?y4 hHeld ?r4
      case y4 =>
        intro wS hS
        go_simp
        all_goals with_reducible rfl
      try simp only [Act.put, List.setIfInBounds_toArray, List.set_cons_zero, List.set_cons_succ]
      refine Reg.take_yes (i := 3) (d := some 48) (v := ?v5) rfl rfl (by kernel_rfl) (by kernel_rfl) (by kernel_rfl) (fun _ _ _ h => h) (by rfl) ?y5 hHeld ?r5
      case y5 =>
        intro wS hS
        obtain ⟨sB, sb, so, sq⟩ := hS
        have hc := string_of_reads Try.underlying23 Try.underlying5 Try.underlying9 (c := cap) sb
        go_simp
        all_goals with_reducible rfl
      try simp only [Act.put, List.setIfInBounds_toArray, List.set_cons_zero, List.set_cons_succ]
      refine Reg.take_yes (i := 4) (d := some 49) (v := ?v6) rfl rfl (by kernel_rfl) (by kernel_rfl) (by kernel_rfl) (fun _ _ _ h => h) (by rfl) ?y6 hHeld ?r6
      case y6 =>
        intro wS hS
        go_simp
        all_goals with_reducible rfl
      try simp only [Act.put, List.setIfInBounds_toArray, List.set_cons_zero, List.set_cons_succ]
      refine Reg.take_yes (i := 5) (d := some 50) (v := ?v7) rfl rfl (by kernel_rfl) (by kernel_rfl) (by kernel_rfl) (fun _ _ _ h => h) (by rfl) ?y7 hHeld ?r7
      case y7 =>
        intro wS hS
        go_simp
        all_goals with_reducible rfl
      try simp only [Act.put, List.setIfInBounds_toArray, List.set_cons_zero, List.set_cons_succ]
      refine Reg.take_yes (i := 6) (d := some 51) (v := ?v8) rfl rfl (by kernel_rfl) (by kernel_rfl) (by kernel_rfl) (fun _ _ _ h => h) (by rfl) ?y8 hHeld ?r8
      case y8 =>
        intro wS hS
        go_simp
        all_goals with_reducible rfl
      try simp only [Act.put, List.setIfInBounds_toArray, List.set_cons_zero, List.set_cons_succ]
      refine Reg.take_yes (i := 7) (d := some 52) (v := ?v9) rfl rfl (by kernel_rfl) (by kernel_rfl) (by kernel_rfl) (fun _ _ _ h => h) (by rfl) ?y9 hHeld ?r9
      case y9 =>
        intro wS hS
        obtain ⟨sB, sb, so, sq⟩ := hS
        have hc := string_of_reads Try.underlying23 Try.underlying5 Try.underlying9 (c := cq) sq
        go_simp
        all_goals with_reducible rfl
      try simp only [Act.put, List.setIfInBounds_toArray, List.set_cons_zero, List.set_cons_succ]
      refine Reg.take_yes (i := 8) (d := some 53) (v := ?v10) rfl rfl (by kernel_rfl) (by kernel_rfl) (by kernel_rfl) (fun _ _ _ h => h) (by rfl) ?y10 hHeld ?r10
      case y10 =>
        intro wS hS
        go_simp
        all_goals with_reducible rfl
      try simp only [Act.put, List.setIfInBounds_toArray, List.set_cons_zero, List.set_cons_succ]
      refine Reg.take_yes (i := 9) (d := some 54) (v := ?v11) rfl rfl (by kernel_rfl) (by kernel_rfl) (by kernel_rfl) (fun _ _ _ h => h) (by rfl) ?y11 hHeld ?r11
      case y11 =>
        intro wS hS
        go_simp
        all_goals with_reducible rfl
      try simp only [Act.put, List.setIfInBounds_toArray, List.set_cons_zero, List.set_cons_succ]
      refine wpAnyH_ready (rs := [10]) (by kernel_rfl) (by simp) ?_
      refine Reg.cons_yes rfl (by rfl) (fun K hK => ?_) ?_
      · go_simp
        have hH := hHeld
        obtain ⟨sB, sb, so, sq⟩ := hH
        refine (rput_says v s hv.out hs8 _).mono ?_
        rintro e wA ⟨r, rfl, hor, hb⟩
        obtain ⟨Ar, cr, rfl, _, hrr⟩ := Own.slice hor
        rw [bys_len] at hrr ⊢
        have hcr := fun c => string_of_reads Try.underlying23 Try.underlying5 Try.underlying9 (c := c) hrr
        clear hor
        refine hK.out _ _ (⟨below_step sB hb, sb.below hb, so.below hb, sq.below hb⟩) (fun hHeld => ?_)
        clear hK K
        try simp only [Act.put, List.setIfInBounds_toArray, List.set_cons_zero, List.set_cons_succ]
        refine wpAnyH_ready (rs := [11]) (by kernel_rfl) (by simp) ?_
        refine Reg.cons_yes rfl (by rfl) (fun K hK => ?_) ?_
        · go_simp
          have hH := hHeld
          obtain ⟨sB, sb, so, sq⟩ := hH
          refine hK.out _ _ (⟨sB, sb, so, sq⟩) (fun hHeld => ?_)
          clear hK K
          try simp only [Act.put, List.setIfInBounds_toArray, List.set_cons_zero, List.set_cons_succ]
          refine Reg.take_yes (i := 12) (d := some 57) (v := ?v12) rfl rfl (by kernel_rfl) (by kernel_rfl) (by kernel_rfl) (fun _ _ _ h => h) (by rfl) ?y12 hHeld ?r12
          case y12 =>
            intro wS hS
            go_simp
            all_goals with_reducible rfl
          try simp only [Act.put, List.setIfInBounds_toArray, List.set_cons_zero, List.set_cons_succ]
          refine Reg.take_yes (i := 13) (d := some 58) (v := ?v13) rfl rfl (by kernel_rfl) (by kernel_rfl) (by kernel_rfl) (fun _ _ _ h => h) (by rfl) ?y13 hHeld ?r13
          case y13 =>
            intro wS hS
            go_simp
            all_goals with_reducible rfl
          try simp only [Act.put, List.setIfInBounds_toArray, List.set_cons_zero, List.set_cons_succ]
          refine Reg.take_yes (i := 14) (d := some 6) (v := ?v14) rfl rfl (by kernel_rfl) (by kernel_rfl) (by kernel_rfl) (fun _ _ _ h => h) (by rfl) ?y14 hHeld ?r14
          case y14 =>
            intro wS hS
            go_simp
            all_goals with_reducible rfl
          try simp only [Act.put, List.setIfInBounds_toArray, List.set_cons_zero, List.set_cons_succ]
          refine wpAnyH_done (by kernel_rfl) ?_ _
          obtain ⟨hB, _, _, _⟩ := hHeld
          clear hrr hcr
          go_wp2_with fail
          go_ret
          exact ⟨rfl, hB⟩
        exact AllReadyH.nil
      exact AllReadyH.nil
set_option maxRecDepth 100000 in
theorem far (vn : Int) (A : Option Addr) (n cap : Nat) (a : Int) (w : World) (hn : 100 < n) :
    Calls Try.prog 5 #[.int .u64 vn, .int .u8 a, .slice A n cap] w fun e w' => e = .returned (.bool true) ∧ Below w.heap.size w w' := by
  have hn' : (100 : Int) < (n : Int) := by omega
  go_enter Try.func5, Try.ntmps5
  go_wp2_with fail
  refine (awake_says _).mono ?_
  rintro e w1 ⟨rfl, hb⟩
  have hid1 := Lib.hid hb
  clear hb
  go_wp2_with fail
  refine (awake_says _).mono ?_
  rintro e w2 ⟨rfl, hb⟩
  have hid2 := Lib.hid (below_step hid1.out hb)
  clear hb hid1
  go_wp2_with fail
  go_ret
  exact ⟨rfl, hid2.out⟩
theorem calls (vn a : Int) (A : Option Addr) (len cap : Nat) (zs : List Int) (w : World) (h0 : (Lit.int .u64 vn).wf = true) (h1 : (Lit.int .u8 a).wf = true)
    (hr : (A = none ∧ len = 0 ∧ cap = 0 ∧ zs = []) ∨ ∃ x, A = some x ∧ len ≤ cap ∧ cap ≤ maxLen ∧ zs.length = cap ∧ (∀ i, i < zs.length → w.cell? (x.add i) = some (.int .u8 (zs.getD i 0))) ∧ ∀ n ∈ zs, (Lit.int .u8 n).wf = true) :
    Calls Try.prog 5 #[.int .u64 vn, .int .u8 a, .slice A len cap] w fun e w' => e = .returned (.bool true) ∧ Below w.heap.size w w' := by
  obtain ⟨l, rfl, hr, _, hw, hc⟩ := ReadsInt.ofRowC hr
  obtain ⟨b, rfl, hb⟩ := nats_of l hw
  obtain ⟨a0, a1⟩ := u8_of a h1
  obtain ⟨v, hv, hv2⟩ := u64_of vn h0
  by_cases hn : 100 < (up b).length
  · exact far vn A _ cap a w hn
  · exact pos vn v A _ cap b a w hv hv2 hr hc hb a0 a1 (by omega)
end Go.Proofs.Ythfmhcbeodjffaa.BytesKeeps
