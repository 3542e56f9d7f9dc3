/- What the printed functions of the package pool, and of its reference, answer, over natural numbers. -/
import Derived.Test.YtojklokbdmelhaaDoorSPoolAllP
import Derived.Test.YtojklokbdmelhaaDoorSet1
import Derived.Test.YtojklokbdmelhaaDoorSPoolAllx3
set_option linter.unusedVariables false
set_option linter.unusedSimpArgs false
namespace Go.Proofs.YtojklokbdmelhaaDoor.SPoolAll
open Go.RowKit Go.Proofs.YtojklokbdmelhaaDoorW.PrintWords Go.Proofs.YtojklokbdmelhaaDoor.Bits Go.Proofs.YtojklokbdmelhaaDoor.Pop

theorem bit_l0 (w i : Nat) (hw : w < 18446744073709551616) (hi : i < 64) (d : Nat) : ∀ k j : Nat, j ≤ i → i - j = d → d < k → atlasref01_Bit.l0 k ((w / 2 ^ j : Nat) : Int) (i : Int) (j : Int) = some (w.testBit i) := by
  induction d with
  | zero =>
    intro k j h1 h2 hk
    obtain ⟨k, rfl⟩ : ∃ m, k = m + 1 := ⟨k - 1, by omega⟩
    obtain rfl : j = i := by omega
    rw [atlasref01_Bit.l0, if_neg (by omega), Int.tmod_eq_emod_of_nonneg (Int.natCast_nonneg _), Nat.testBit_eq_decide_div_mod_eq]
    refine congrArg some ?_
    rw [Bool.eq_iff_iff, beq_iff_eq, decide_eq_true_eq]
    omega
  | succ d ih =>
    intro k j h1 h2 hk
    obtain ⟨k, rfl⟩ : ∃ m, k = m + 1 := ⟨k - 1, by omega⟩
    have hle : w / 2 ^ j < 18446744073709551616 := Nat.lt_of_le_of_lt (Nat.div_le_self _ _) hw
    rw [atlasref01_Bit.l0, if_pos (by omega), Bits.w64_small _ (by omega) (by omega), Int.tdiv_eq_ediv_of_nonneg (Int.natCast_nonneg _),
      show (((w / 2 ^ j : Nat) : Int) / 2) = ((w / 2 ^ (j + 1) : Nat) : Int) by rw [Nat.pow_succ, ← Nat.div_div_eq_div_mul]; omega, Bits.wrap_u _ (Nat.lt_of_le_of_lt (Nat.div_le_self _ _) hw)]
    exact ih k (j + 1) (by omega) (by omega) (by omega)
/-- The reference's Bit tells a word's bit. -/
theorem bit_f (w i k : Nat) (hw : w < 18446744073709551616) (hi : i < 64) (hk : 66 < k) : atlasref01_Bit.f k (w : Int) (i : Int) = some (w.testBit i) := by
  obtain ⟨k, rfl⟩ : ∃ m, k = m + 1 := ⟨k - 1, by omega⟩
  unfold atlasref01_Bit.f
  rw [if_neg (by omega), decide_eq_false (by omega), atlasref01_Bit.j0, if_neg (by decide)]
  have := bit_l0 w i hw hi i k 0 (by omega) (by omega) (by omega)
  simpa using this
/-- A pool is right. -/
def PR (b : Nat) (m : Int) (f : Nat) : Prop := 0 ≤ m ∧ m ≤ 64 ∧ b ≤ 268435456 ∧ ∀ j : Nat, m ≤ j → f.testBit j = false
theorem free_f (b m : Int) (f : Nat) (hf : f < 18446744073709551616) : pool_Free.f b m (f : Int) = some ((pc 64 f : Nat) : Int) := by
  unfold pool_Free.f; rw [ones_f f hf]; rfl
theorem right_yes (b : Nat) (m : Int) (f : Nat) (hf : f < 18446744073709551616) (h : PR b m f) : pool_Right.f (b : Int) m (f : Int) = some true := by
  obtain ⟨h0, h1, h2, h3⟩ := h
  obtain ⟨n, rfl⟩ := Int.eq_ofNat_of_zero_le h0
  unfold pool_Right.f
  have g := get_f f 0 n hf (by omega) (by omega)
  rw [(low_iff f n hf (by omega)).2 fun j hj => h3 j (by omega)] at g
  rw [if_pos h0, if_pos h1, if_pos (by omega), show bits_Get.f (f : Int) 0 (n : Int) = some (f : Int) from g, Option.bind_some]
  simp
theorem right_no (b : Nat) (m : Int) (f : Nat) (hf : f < 18446744073709551616) (h : ¬ PR b m f) : pool_Right.f (b : Int) m (f : Int) = some false := by
  unfold pool_Right.f
  by_cases h0 : 0 ≤ m
  · by_cases h1 : m ≤ 64
    · by_cases h2 : b ≤ 268435456
      · obtain ⟨n, rfl⟩ := Int.eq_ofNat_of_zero_le h0
        have g := get_f f 0 n hf (by omega) (by omega)
        rw [if_pos h0, if_pos h1, if_pos (by omega), show bits_Get.f (f : Int) 0 (n : Int) = _ from g, Option.bind_some]
        refine congrArg some (beq_eq_false_iff_ne.2 fun e => h ⟨h0, h1, h2, fun j hj => ?_⟩)
        exact (low_iff f n hf (by omega)).1 (by omega) j (by omega)
      · rw [if_pos h0, if_pos h1, if_neg (by omega)]
    · rw [if_pos h0, if_neg h1]
  · rw [if_neg h0]
theorem new_yes (b n : Nat) (hn : n ≤ 64) (hb : b ≤ 268435456) : pool_New.f (b : Int) (n : Int) = some ((b : Int), (n : Int), ((getN 18446744073709551615 0 n : Nat) : Int), 0) := by
  unfold pool_New.f
  have r := right_yes b n 0 (by decide) ⟨by omega, by omega, hb, fun j _ => by simp⟩
  have g := get_f 18446744073709551615 0 n (by decide) (by omega) (by omega)
  rw [show pool_Right.f (b : Int) (n : Int) 0 = some true from r, Option.bind_some, if_pos rfl, show bits_Get.f 18446744073709551615 0 (n : Int) = _ from g, Option.bind_some]
theorem new_no (b : Nat) (m : Int) (h : ¬ PR b m 0) : pool_New.f (b : Int) m = some (0, 0, 0, 1) := by
  unfold pool_New.f
  have r := right_no b m 0 (by decide) h
  rw [show pool_Right.f (b : Int) m 0 = some false from r, Option.bind_some, if_neg (by decide)]
theorem rright_l0 (b : Nat) (m : Int) (f : Nat) (hf : f < 18446744073709551616) (n : Nat) (hn : n ≤ 64) (d : Nat) : ∀ k j : Nat, j ≤ 64 → 64 - j = d → d + 70 < k → n ≤ j → (∀ i, n ≤ i → i < j → f.testBit i = false) →
    ∃ r : Bool, atlasref04_Right.l0 k (j : Int) (b : Int) m (f : Int) = some r ∧ (r = true ↔ ∀ i, n ≤ i → f.testBit i = false) := by
  induction d with
  | zero =>
    intro k j h1 h2 hk hj hlow
    obtain ⟨k, rfl⟩ : ∃ q, k = q + 1 := ⟨k - 1, by omega⟩
    rw [atlasref04_Right.l0, if_neg (by omega)]
    refine ⟨true, rfl, fun _ i hi => ?_, fun _ => rfl⟩
    by_cases h : i < j
    · exact hlow i hi h
    · exact bit_high f i hf (by omega)
  | succ d ih =>
    intro k j h1 h2 hk hj hlow
    obtain ⟨k, rfl⟩ : ∃ q, k = q + 1 := ⟨k - 1, by omega⟩
    rw [atlasref04_Right.l0, if_pos (by omega), bit_f f j k hf (by omega) (by omega), Option.bind_some]
    by_cases h : f.testBit j = true
    · rw [if_pos h]
      refine ⟨false, rfl, fun x => (Bool.noConfusion x), fun x => ?_⟩
      rw [x j hj] at h; exact h
    · rw [if_neg h, w64_small _ (by omega) (by omega)]
      refine ih k (j + 1) (by omega) (by omega) (by omega) (by omega) fun i h1 h2 => ?_
      by_cases e : i = j
      · subst e; simpa using h
      · exact hlow i h1 (by omega)
theorem rright_f (b : Nat) (m : Int) (f : Nat) (hf : f < 18446744073709551616) (k : Nat) (hk : 140 < k) : ∃ r : Bool, atlasref04_Right.f k (b : Int) m (f : Int) = some r ∧ (r = true ↔ PR b m f) := by
  unfold atlasref04_Right.f
  obtain ⟨k, rfl⟩ : ∃ q, k = q + 1 := ⟨k - 1, by omega⟩
  by_cases h0 : m < 0
  · rw [if_pos h0, atlasref04_Right.j0, if_pos rfl]; exact ⟨false, rfl, fun x => Bool.noConfusion x, fun x => absurd x.1 (by omega)⟩
  · by_cases h1 : m > 64
    · rw [if_neg h0, if_pos h1, atlasref04_Right.j0, if_pos rfl]; exact ⟨false, rfl, fun x => Bool.noConfusion x, fun x => absurd x.2.1 (by omega)⟩
    · by_cases h2 : (b : Int) > 268435456
      · rw [if_neg h0, if_neg h1, decide_eq_true h2, atlasref04_Right.j0, if_pos rfl]; exact ⟨false, rfl, fun x => Bool.noConfusion x, fun x => absurd x.2.2.1 (by omega)⟩
      · obtain ⟨n, rfl⟩ := Int.eq_ofNat_of_zero_le (show 0 ≤ m by omega)
        rw [if_neg h0, if_neg h1, decide_eq_false h2, atlasref04_Right.j0, if_neg (show ¬ (false = true) by decide)]
        obtain ⟨r, hr, hi⟩ := rright_l0 b n f hf n (by omega) (64 - n) k n (by omega) rfl (by omega) (by omega) fun i a c => absurd c (by omega)
        refine ⟨r, hr, hi.trans ⟨fun x => ⟨by omega, by omega, by omega, fun j hj => x j (by omega)⟩, fun x j hj => x.2.2.2 j (by omega)⟩⟩
end Go.Proofs.YtojklokbdmelhaaDoor.SPoolAll
