/- What the functions of layer 18 answer, the program's and the reference's. -/
import Derived.Test.YtjalglcmpnjeoaaDoorRAsidN
set_option linter.unusedVariables false
set_option linter.unusedSimpArgs false
namespace Go.Proofs.YtjalglcmpnjeoaaDoor.SAsidAll
open Go.RowKit Go.Proofs.YtjalglcmpnjeoaaDoorW.PrintWords Go.Proofs.YtjalglcmpnjeoaaDoor.Bits Go.Proofs.YtjalglcmpnjeoaaDoor.Pop

theorem within_f (w n : Nat) (hw : w < 18446744073709551616) (hn : n ≤ 64) : asid_within.f (w : Int) (n : Int) = some (decide (getN w 0 n = w)) := by
  unfold asid_within.f
  rw [show (0 : Int) = ((0 : Nat) : Int) from rfl, get_f w 0 n hw (by omega) (by omega), Option.bind_some]
  congr 1
  by_cases h : getN w 0 n = w
  · rw [h]; simp
  · rw [decide_eq_false h]; simp; omega
theorem aright_yes (m : Int) (f o : Nat) (hf : f < 18446744073709551616) (ho : o < 18446744073709551616) (h : AR m f o) : asid_Right.f m (f : Int) (o : Int) = some true := by
  obtain ⟨h0, h1, h2⟩ := h
  obtain ⟨n, rfl⟩ := Int.eq_ofNat_of_zero_le (show 0 ≤ m by omega)
  unfold asid_Right.f
  rw [if_pos (by omega), if_pos (by omega), within_f f n hf (by omega), decide_eq_true ((low_iff f n hf (by omega)).2 fun j hj => (h2 j (by omega)).1), Option.bind_some, if_pos rfl,
    within_f o n ho (by omega), decide_eq_true ((low_iff o n ho (by omega)).2 fun j hj => (h2 j (by omega)).2)]
  rfl
theorem aright_no (m : Int) (f o : Nat) (hf : f < 18446744073709551616) (ho : o < 18446744073709551616) (h : ¬ AR m f o) : asid_Right.f m (f : Int) (o : Int) = some false := by
  unfold asid_Right.f
  by_cases h0 : 1 ≤ m
  · by_cases h1 : m ≤ 16
    · obtain ⟨n, rfl⟩ := Int.eq_ofNat_of_zero_le (show 0 ≤ m by omega)
      rw [if_pos (by omega), if_pos (by omega), within_f f n hf (by omega), Option.bind_some]
      by_cases c1 : getN f 0 n = f
      · rw [decide_eq_true c1, if_pos rfl, within_f o n ho (by omega), Option.bind_some]
        by_cases c2 : getN o 0 n = o
        · exact absurd ⟨h0, h1, fun j hj => ⟨(low_iff f n hf (by omega)).1 c1 j (by omega), (low_iff o n ho (by omega)).1 c2 j (by omega)⟩⟩ h
        · rw [decide_eq_false c2]
      · rw [decide_eq_false c1, if_neg (by decide)]
    · rw [if_pos (by omega), if_neg (by omega)]
  · rw [if_neg (by omega)]
theorem anew_yes (n : Nat) (h0 : 1 ≤ n) (h1 : n ≤ 16) : asid_New.f (n : Int) = some ((n : Int), ((getN 18446744073709551615 0 n : Nat) : Int), 0, 0) := by
  unfold asid_New.f
  have r := aright_yes n 0 0 (by decide) (by decide) ⟨by omega, by omega, fun j _ => by simp⟩
  rw [show asid_Right.f (n : Int) 0 0 = some true from r, Option.bind_some, if_pos rfl]
  have := get_f 18446744073709551615 0 n (by decide) (by decide) (by omega)
  rw [show bits_Get.f 18446744073709551615 0 (n : Int) = _ from this, Option.bind_some]
theorem anew_no (m : Int) (h : m < 1 ∨ 16 < m) : asid_New.f m = some (0, 0, 0, 1) := by
  unfold asid_New.f
  have r := aright_no m 0 0 (by decide) (by decide) (fun x => by have := x.1; have := x.2.1; omega)
  rw [show asid_Right.f m 0 0 = some false from r, Option.bind_some, if_neg (by decide)]
theorem rnew_l0 (n : Nat) (hn : n ≤ 16) (d : Nat) : ∀ k j : Nat, j ≤ n → n - j = d → d + 70 < k →
    atlasref18_New.l0 k (n : Int) (j : Int) (n : Int) ((getN 18446744073709551615 0 j : Nat) : Int) 0 = some ((n : Int), ((getN 18446744073709551615 0 n : Nat) : Int), 0) := by
  induction d with
  | zero =>
    intro k j h1 h2 hk
    obtain ⟨k, rfl⟩ : ∃ q, k = q + 1 := ⟨k - 1, by omega⟩
    rw [atlasref18_New.l0, if_neg (by omega), show j = n by omega]
  | succ d ih =>
    intro k j h1 h2 hk
    obtain ⟨k, rfl⟩ : ∃ q, k = q + 1 := ⟨k - 1, by omega⟩
    have hl := getN_lt 18446744073709551615 0 j (by decide)
    have hs : atlasref01_Set.f ((getN 18446744073709551615 0 j : Nat) : Int) (j : Int) 1 1 = some ((getN 18446744073709551615 0 (j + 1) : Nat) : Int) := by
      unfold atlasref01_Set.f
      rw [if_pos ⟨by omega, by omega, by omega, by omega, by omega, by omega, by omega, by omega⟩]
      congr 2
      refine eq_of_bits fun i => ?_
      rw [Int.toNat_natCast, Int.toNat_natCast, show Int.toNat 1 = 1 from rfl, bit_set _ j 1 i hl (by omega) (by decide), all_set j (by omega), all_set (j + 1) (by omega)]
      by_cases e : i = j
      · rw [if_pos e]; simp [e]
      · rw [if_neg e]; congr 1; simp only [eq_iff_iff]; omega
    rw [atlasref18_New.l0, if_pos (by omega), hs, Option.bind_some, w64_small _ (by omega) (by omega)]
    exact ih k (j + 1) (by omega) (by omega) (by omega)
theorem rnew_f (n k : Nat) (hn : n ≤ 16) (hk : 100 < k) : atlasref18_New.f k (n : Int) = some ((n : Int), ((getN 18446744073709551615 0 n : Nat) : Int), 0) := by
  unfold atlasref18_New.f
  have := rnew_l0 n hn n k 0 (by omega) (by omega) (by omega)
  have e : getN 18446744073709551615 0 0 = 0 := eq_of_bits fun i => by rw [all_set 0 (by omega)]; simp
  rw [e] at this
  exact this
theorem pc_step (j f : Nat) : pc (j + 1) f = pc j f + (f.testBit j).toNat := by
  rw [pc_sum, pc_sum, List.range_succ, List.map_append, List.sum_append]; simp
theorem pc_above (n f d : Nat) (h : ∀ j, n ≤ j → f.testBit j = false) : pc (n + d) f = pc n f := by
  induction d with
  | zero => rfl
  | succ d ih => rw [← Nat.add_assoc, pc_step, ih, h (n + d) (by omega)]; rfl
theorem rfree_l0 (n : Nat) (o : Int) (f : Nat) (hf : f < 18446744073709551616) (hn : n ≤ 16) (d : Nat) : ∀ k j : Nat, j ≤ n → n - j = d → d + 70 < k →
    atlasref18_Free.l0 k ((pc j f : Nat) : Int) (j : Int) (n : Int) (f : Int) o = some ((pc n f : Nat) : Int) := by
  induction d with
  | zero =>
    intro k j h1 h2 hk
    obtain ⟨k, rfl⟩ : ∃ q, k = q + 1 := ⟨k - 1, by omega⟩
    rw [atlasref18_Free.l0, if_neg (by omega), show j = n by omega]
  | succ d ih =>
    intro k j h1 h2 hk
    obtain ⟨k, rfl⟩ : ∃ q, k = q + 1 := ⟨k - 1, by omega⟩
    have hle := pc_le j f
    have hs := pc_step j f
    have := ih k (j + 1) (by omega) (by omega) (by omega)
    rw [atlasref18_Free.l0, if_pos (by omega), bit_f f j k hf (by omega) (by omega), Option.bind_some, w64_small (j + 1 : Int) (by omega) (by omega)]
    cases h : f.testBit j
    · rw [if_neg (by decide)]
      rw [h] at hs
      rw [show pc (j + 1) f = pc j f from hs] at this
      exact this
    · rw [if_pos rfl, w64_small _ (by omega) (by omega)]
      rw [h] at hs
      rw [show pc (j + 1) f = pc j f + 1 from hs] at this
      exact this
theorem rfree_f (n : Nat) (o : Int) (f k : Nat) (hf : f < 18446744073709551616) (hn : n ≤ 16) (hlow : ∀ j, n ≤ j → f.testBit j = false) (hk : 140 < k) : atlasref18_Free.f k (n : Int) (f : Int) o = some ((pc 64 f : Nat) : Int) := by
  unfold atlasref18_Free.f
  have := rfree_l0 n o f hf hn n k 0 (by omega) (by omega) (by omega)
  have h0 : pc 0 f = 0 := by have := pc_le 0 f; omega
  have h64 := pc_above n f (64 - n) hlow
  rw [show n + (64 - n) = 64 by omega] at h64
  rw [h0, ← h64] at this
  exact this
theorem bits_calls (x : Nat) (hx : x < 18446744073709551616) (i : Nat) (hi : i < 64) (W : World) : Calls Tryd.prog 20 #[.int .u64 x, .int .i64 (i : Int)] W fun e w' => e = .returned (.bool (x.testBit i)) ∧ Drawn0 W w' :=
  atlasref01_Bit.calls 200 x i _ W (bit_f x i 200 hx hi (by omega))
theorem rtake_calls (n f o : Nat) (hn : n ≤ 16) (hf : f < 18446744073709551616) (ho : o < 18446744073709551616) (hlow : ∀ j, n ≤ j → f.testBit j = false) (w : World) :
    Calls Tryd.prog 12 #[.agg #[.int .i64 (n : Int), .int .u64 f, .int .u64 o]] w
      (if f = 0 then Takes w n f o 0 false 9 else Takes w n ((setN f (ctz f) 1 0 : Nat) : Int) ((setN o (ctz f) 1 1 : Nat) : Int) ((ctz f + 1 : Nat) : Int) (o.testBit (ctz f)) 0) := by
  by_cases h0 : f = 0
  · rw [if_pos h0]
    refine rtake_no f o n w (by omega) fun i hi W => ?_
    have := bits_calls f hf i (by omega) W
    rw [h0, Nat.zero_testBit] at this
    rw [h0]
    exact this
  · rw [if_neg h0]
    have hc := ctz_pos f hf h0
    rcases ctz_cases f with ⟨e, _⟩ | ⟨_, hbit, hl⟩
    · omega
    have hcn : ctz f < n := by
      rcases Nat.lt_or_ge (ctz f) n with h | h
      · exact h
      · rw [hlow _ h] at hbit; cases hbit
    refine rtake_yes f o _ _ _ (o.testBit (ctz f)) n (ctz f) w (by omega) hcn (fun i hi W => ?_) (fun W => ?_) (fun W => bits_calls o ho (ctz f) hc W) (fun W => ?_) (fun W => ?_) ?_ (wrap_u _ (by omega))
    · have := bits_calls f hf i (by omega) W
      rw [hl i hi] at this
      exact this
    · have := bits_calls f hf (ctz f) hc W
      rw [hbit] at this
      exact this
    · exact rset_calls f (ctz f) 1 0 W hf (by omega) (by omega) (by omega)
    · exact rset_calls o (ctz f) 1 1 W ho (by omega) (by omega) (by omega)
    · rw [show (((ctz f : Nat) : Int) + 1) = ((ctz f + 1 : Nat) : Int) by omega, wrap_u _ (by omega)]
theorem rgive_calls (n f o u : Nat) (hn : n ≤ 16) (hf : f < 18446744073709551616) (hu : u < 18446744073709551616) (w : World) :
    Calls Tryd.prog 14 #[.agg #[.int .i64 (n : Int), .int .u64 f, .int .u64 o], .int .u64 u] w
      (if u < 1 ∨ n < u ∨ getN f (u - 1) 1 = 1 then Gives w n f o 1 else Gives w n ((setN f (u - 1) 1 1 : Nat) : Int) o 0) := by
  by_cases h : u < 1 ∨ n < u ∨ getN f (u - 1) 1 = 1
  · rw [if_pos h]
    refine rgive_no f o u n w (by omega) fun i hi => ?_
    by_cases e : i + 1 = u
    · refine .inr ⟨by simp; omega, fun W => ?_⟩
      have := bits_calls f hf i (by omega) W
      have hb : f.testBit i = true := by
        rcases h with h | h | h
        · omega
        · omega
        · rw [show u - 1 = i by omega, get1 f i hf (by omega)] at h
          cases hh : f.testBit i
          · rw [hh] at h; cases h
          · rfl
      rw [hb] at this
      exact this
    · exact .inl (by simp; omega)
  · rw [if_neg h]
    have hb : f.testBit (u - 1) = false := by
      cases hh : f.testBit (u - 1)
      · rfl
      · exact absurd (.inr (.inr (by rw [get1 f (u - 1) hf (by omega), hh]; rfl))) h
    refine rgive_ok f o u _ n (u - 1) w (by omega) (by omega) (fun i hi => by simp; omega) (by simp; omega) (fun W => ?_) (fun W => rset_calls f (u - 1) 1 1 W hf (by omega) (by omega) (by omega))
    have := bits_calls f hf (u - 1) (by omega) W
    rw [hb] at this
    exact this
end Go.Proofs.YtjalglcmpnjeoaaDoor.SAsidAll
