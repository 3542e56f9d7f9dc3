/- BytesCut, the walk, over the contracts of what it calls. -/
import Derived.Test.YthfmhcbeodjffaaBytesW
import Derived.WalkSpells
import Derived.Lib.Hide
set_option linter.unusedVariables false
set_option linter.unusedSimpArgs false
namespace Go.Proofs.Ythfmhcbeodjffaa.BytesCut
open Go.RowKit Go.Proofs.YthfmhcbeodjffaaW.PrintWords Go.Proofs.Ythfmhcbeodjffaa.Bits Go.Proofs.Ythfmhcbeodjffaa.BytesW Go.Proofs.Ythfmhcbeodjffaa.PBytesPuts

theorem info5 : (Try.prog.info? 5).map (fun i => (i.zero, i.size, i.bytes)) = some (some (.int .u8 0), 1, 1) := by kernel_rfl
theorem more_val (l : List Nat) : val ((l ++ [0]).take 8) = val (l.take 8) := by
  by_cases h : l.length < 8
  · rw [List.take_of_length_le (by simp; omega), List.take_of_length_le (by omega), val_zero]
  · rw [List.take_append_of_le_length (by omega)]
theorem cut_val (l : List Nat) (hl : ∀ x ∈ l, x < 256) (s : Nat) (hs : s ≤ 8) (hn : s ≤ l.length) : val (l.take 8) % 256 ^ s = val ((l.take s).take 8) := by
  rw [val_mod (l.take 8) (fun x hx => hl x (List.mem_of_mem_take hx)) s (by rw [List.length_take]; omega), List.take_take, List.take_take, Nat.min_eq_left hs, Nat.min_eq_right hs]
theorem cut8_val (l : List Nat) : val ((l.take 8).take 8) = val (l.take 8) := by rw [List.take_take]; rfl
theorem slice_says {n cap : Nat} {A : Option Addr} {l : List Nat} {w : World} (h : Rd w A n l) (hc : n ≤ cap) (s : Nat) (hs : s ≤ n) (W : World) :
    (Instr.slice 23 (.slice A n cap) none (some (.int .i64 (s : Int))) none).run Try.prog W = .ok (.slice A s cap) W := by
  obtain ⟨i0, hi, hzz⟩ := Option.map_eq_some_iff.1 info5
  simp only [Prod.mk.injEq] at hzz
  have hn := h.len
  subst hn
  have := (print_take_int (P := Try.prog) (k := .u8) 23 5 Try.underlying23 hi hzz.2.1 A cap (up l) (s : Int) (by omega) (by rw [up_len]; omega) (by rw [up_len]; exact hc)).1 W
  rw [up_len, List.length_take, up_len] at this
  rw [this]
  simp [Nat.min_eq_left hs]
set_option maxRecDepth 100000 in
set_option maxHeartbeats 4000000 in
theorem pos (A : Option Addr) (n cap : Nat) (l : List Nat) (a : Int) (w : World) (h : Rd w A n l) (hc : n ≤ cap) (hl : ∀ x ∈ l, x < 256) (h0 : 0 ≤ a) (h1 : a ≤ 255) (hn : n ≤ 100) :
    Calls Try.prog 6 #[.slice A n cap, .int .u8 a] w fun e w' => e = .returned (.bool true) ∧ Below w.heap.size w w' := by
  obtain ⟨s, hs, hp⟩ := pick_says a h0 h1
  have hs1 : 1 ≤ s := by omega
  have hs8 : s ≤ 8 := by omega
  have HL := Lib.hid hl
  have HR := Lib.hid h
  have HP := Lib.hid hp
  have HLn := Lib.hid h.len
  have hid0 := Lib.hid (Below.refl w.heap.size w)
  clear h hl hs hp
  go_enter Try.func6, Try.ntmps6
  go_wp2_with fail
  refine (awake_says _).mono ?_
  rintro e w1 ⟨rfl, hb⟩
  have hid1 := Lib.hid hb
  clear hb hid0
  go_wp2_with fail
  refine (HP.out _).mono ?_
  rintro e w2 ⟨rfl, hb⟩
  have hid2 := Lib.hid (below_step hid1.out hb)
  clear hb hid1
  go_wp2_with fail
  have hv := Lib.hid (val8_lt l HL.out)
  refine (get_says A n cap l HL.out _ (HR.out.below hid2.out) hc).mono ?_
  obtain ⟨v, hvv⟩ : ∃ v, v = val (l.take 8) := ⟨_, rfl⟩
  rw [← hvv] at hv ⊢
  have HV := Lib.hid hvv
  clear hvv
  rintro e w3 ⟨rfl, hb⟩
  have hid3 := Lib.hid (below_step hid2.out hb)
  clear hb hid2
  go_upto_region 5 with (fail)
  have hz3 := hid3.out.size
  have hln := HLn.out
  go_upto_region 6 with (first
    | (at_builtin; refine print_append_row (w0 := w) w.heap.size rfl (.tmp 20) (.tmp 21) 23 5 .u8 1 rfl Try.underlying23 info5 (by decide) _ [] (up l) A n cap rfl rfl (own_lit w3 w.heap.size 5 .u8 [] hid3.out.size (by decide)) (ReadsInt.allocS (HR.out.below hid3.out) _) (below_alloc hid3.out _) ?_ ?_ ?_; (simp; omega); (simp; omega); intro v1 w4 hown1 hbel1 hgrow1 hat1; simp only [List.nil_append] at hown1; clear hgrow1 hat1)
    | (at_builtin; refine print_append_row (w0 := w) w.heap.size rfl (.tmp 22) (.tmp 23) 23 5 .u8 1 rfl Try.underlying23 info5 (by decide) v1 (up l) [0] (some ⟨w4.heap.size, 0, none⟩) 1 1 rfl rfl (hown1.alloc _) (own_reads' (own_lit w4 w.heap.size 5 .u8 [0] hbel1.size (by decide))) (below_alloc hbel1 _) ?_ ?_ ?_; (have := hbel1.size; simp; omega); (simp [up_len]; omega); intro v2 w5 hown2 hbel2 hgrow2 hat2; clear hgrow2 hat2))
  clear hz3
  obtain ⟨A2, c2, rfl, hc2, hr2⟩ := Own.slice (show Own w5 w.heap.size v2 (l ++ [0]) by unfold Own; rw [up_app]; exact hown2)
  have HR2 := Lib.hid hr2
  have hid5 := Lib.hid hbel2
  have hl2 := Lib.hid (show ∀ x ∈ l ++ [0], x < 256 from fun x hx => by
    rcases List.mem_append.1 hx with h | h
    · exact HL.out x h
    · simp at h; omega)
  have e2 : (l ++ [0]).length = n + 1 := by simp; omega
  rw [e2] at hc2 HR2 ⊢
  clear hown1 hbel1 hown2 hbel2 hr2 e2
  have hgm : ∀ W, Below w5.heap.size w5 W → Calls Try.prog 13 #[.slice A2 (n + 1) c2] W (Ans (.int .u64 (v : Int)) W) := fun W hb => by
    have := get_says A2 (n + 1) c2 (l ++ [0]) hl2.out W (HR2.out.below hb) hc2
    rw [more_val, ← HV.out] at this
    exact this
  have HGM := Lib.hid hgm
  clear hgm HR2 hl2
  -- the last test
  have last : ∀ W0, Below w.heap.size w W0 → 8 < n → ∀ W, Below W0.heap.size W0 W → Calls Try.prog 13 #[.slice A 8 cap] W (Ans (.int .u64 (v : Int)) W) := fun W0 h0 h8 W hb => by
    have := get_says A 8 cap (l.take 8) (fun x hx => HL.out x (List.mem_of_mem_take hx)) W ((HR.out.below (below_step h0 hb)).take 8 (by omega)) (by omega)
    rw [cut8_val, ← HV.out] at this
    exact this
  have HLAST := Lib.hid last
  clear last
  have hs8n := Lib.hid (fun h : 8 ≤ n => slice_says HR.out hc 8 h)
  by_cases hsn : s ≤ n
  · have hsl := slice_says HR.out hc s hsn
    have hx := cut_val l HL.out s hs8 (by omega)
    rw [← HV.out] at hx
    obtain ⟨x, hxx⟩ : ∃ x, x = val ((l.take s).take 8) := ⟨_, rfl⟩
    have hg : ∀ W, Below w5.heap.size w5 W → Calls Try.prog 13 #[.slice A s cap] W (Ans (.int .u64 (x : Int)) W) := fun W hb => by
      have := get_says A s cap (l.take s) (fun x hx => HL.out x (List.mem_of_mem_take hx)) W ((HR.out.below (below_step hid5.out hb)).take s hsn) (by omega)
      rw [← hxx] at this
      exact this
    have hlo : ∀ W, Calls Try.prog 11 #[.int .u64 (v : Int), .int .i64 (s : Int)] W (Ans (.int .u64 (x : Int)) W) := fun W => by
      have := low_says v s hv.out hs8 W
      rw [hx, ← hxx] at this
      exact this
    have HG := Lib.hid hg
    have HLO := Lib.hid hlo
    have hsn' : (s : Int) ≤ (n : Int) := by omega
    clear hg hlo hx hxx HR HL
    go_wp2_with fail
    refine (HG.out _ (Below.refl _ _)).mono ?_
    rintro e w6 ⟨rfl, hb⟩
    have hid6 := Lib.hid hb
    clear hb
    go_wp2_with fail
    refine (HLO.out _).mono ?_
    rintro e w7 ⟨rfl, hb⟩
    have hid7 := Lib.hid (below_step hid6.out hb)
    clear hb hid6
    go_wp2_with fail
    refine (HGM.out _ hid7.out).mono ?_
    rintro e w8 ⟨rfl, hb⟩
    have hid8 := Lib.hid (below_step hid7.out hb)
    clear hb hid7 hsl hsn'
    by_cases h8 : n ≤ 8
    · have h8' : (n : Int) ≤ 8 := by omega
      go_wp2_with fail
      go_ret
      exact ⟨rfl, below_step hid5.out hid8.out⟩
    · have h8' : ¬ (n : Int) ≤ 8 := by omega
      have h8b : decide ((n : Int) ≤ 8) = false := decide_eq_false h8'
      have hsl := hs8n.out (by omega)
      go_wp2_with fail
      refine (HLAST.out _ (below_step hid5.out hid8.out) (by omega) _ (Below.refl _ _)).mono ?_
      rintro e w9 ⟨rfl, hb⟩
      have hid9 := Lib.hid (below_step hid8.out hb)
      clear hb hid8
      go_wp2_with fail
      go_ret
      exact ⟨rfl, below_step hid5.out hid9.out⟩
  · have hsn' : (n : Int) < (s : Int) := by omega
    have hsn2 : decide ((s : Int) ≤ (n : Int)) = false := decide_eq_false (by omega)
    have hsn3 : decide (s ≤ n) = false := decide_eq_false hsn
    clear HR HL
    go_wp2_with fail
    refine (HGM.out _ (Below.refl _ _)).mono ?_
    rintro e w8 ⟨rfl, hb⟩
    have hid8 := Lib.hid hb
    clear hb
    have h8' : (n : Int) ≤ 8 := by omega
    go_wp2_with fail
    go_ret
    exact ⟨rfl, below_step hid5.out hid8.out⟩
set_option maxRecDepth 100000 in
theorem far (A : Option Addr) (n cap : Nat) (a : Int) (w : World) (hn : 100 < n) :
    Calls Try.prog 6 #[.slice A n cap, .int .u8 a] w fun e w' => e = .returned (.bool true) ∧ Below w.heap.size w w' := by
  have hn' : (100 : Int) < (n : Int) := by omega
  go_enter Try.func6, Try.ntmps6
  go_wp2_with fail
  refine (awake_says _).mono ?_
  rintro e w1 ⟨rfl, hb⟩
  have hid1 := Lib.hid hb
  clear hb
  go_wp2_with fail
  refine (awake_says _).mono ?_
  rintro e w2 ⟨rfl, hb⟩
  have hid2 := Lib.hid (below_step hid1.out hb)
  clear hb hid1
  go_wp2_with fail
  go_ret
  exact ⟨rfl, hid2.out⟩
theorem calls (A : Option Addr) (len cap : Nat) (zs : List Int) (a : Int) (w : World)
    (hr : (A = none ∧ len = 0 ∧ cap = 0 ∧ zs = []) ∨ ∃ x, A = some x ∧ len ≤ cap ∧ cap ≤ maxLen ∧ zs.length = cap ∧ (∀ i, i < zs.length → w.cell? (x.add i) = some (.int .u8 (zs.getD i 0))) ∧ ∀ n ∈ zs, (Lit.int .u8 n).wf = true)
    (h1 : (Lit.int .u8 a).wf = true) :
    Calls Try.prog 6 #[.slice A len cap, .int .u8 a] w fun e w' => e = .returned (.bool true) ∧ Below w.heap.size w w' := by
  obtain ⟨l, rfl, hr, _, hw, hc⟩ := ReadsInt.ofRowC hr
  obtain ⟨b, rfl, hb⟩ := nats_of l hw
  obtain ⟨a0, a1⟩ := u8_of a h1
  by_cases hn : 100 < (up b).length
  · exact far A _ cap a w hn
  · exact pos A _ cap b a w hr hc hb a0 a1 (by omega)
end Go.Proofs.Ythfmhcbeodjffaa.BytesCut
