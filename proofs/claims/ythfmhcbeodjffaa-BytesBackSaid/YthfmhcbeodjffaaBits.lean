/- Plain facts: Go's shifts and masks of uint64, as the printed words tell them, over natural numbers, bit by bit. -/
import Derived.Test.YthfmhcbeodjffaaWMore
import Derived.Laws.Bits64b
set_option linter.unusedVariables false
set_option linter.unusedSimpArgs false
namespace Go.Proofs.Ythfmhcbeodjffaa.Bits
open Go.RowKit Go.Proofs.YthfmhcbeodjffaaW.PrintWords

theorem wrap_u (a : Nat) (h : a < 18446744073709551616) : IntKind.u64.wrap (a : Int) = a := by rw [IntKind.wrap_u64]; omega
theorem wrap_u' (a : Nat) : IntKind.u64.wrap (a : Int) = ((a % 18446744073709551616 : Nat) : Int) := by rw [IntKind.wrap_u64]; omega
theorem wrap_small (x : Int) (h : 0 ≤ x) (h1 : x < 18446744073709551616) : IntKind.u64.wrap x = x := by rw [IntKind.wrap_u64]; omega
theorem w64_small (x : Int) (h : -9223372036854775808 ≤ x) (h1 : x < 9223372036854775808) : wrap64 x = x := by unfold wrap64; omega
theorem pow64 : (2 : Nat) ^ 64 = 18446744073709551616 := by decide

theorem shl_n (x y : Nat) : shl .u64 (x : Int) (y : Int) = ((x * 2 ^ (min y 64) % 18446744073709551616 : Nat) : Int) := by
  unfold shl
  show IntKind.u64.wrap ((x : Int) * 2 ^ (min y 64)) = _
  have : ((x : Int) * 2 ^ (min y 64)) = ((x * 2 ^ (min y 64) : Nat) : Int) := by simp
  rw [this, wrap_u']
theorem shr_n (x y : Nat) : shr .u64 (x : Int) (y : Int) = ((x / 2 ^ (min y 64) : Nat) : Int) := by
  unfold shr
  show (x : Int) / 2 ^ (min y 64) = _
  simp

theorem two_pow_le (n : Nat) (h : n ≤ 64) : 2 ^ n ≤ 18446744073709551616 := by
  rw [← pow64]; exact Nat.pow_le_pow_right (by decide) h
theorem two_pow_lt (n : Nat) (h : n < 64) : 2 ^ n < 18446744073709551616 := by
  rw [← pow64]; exact Nat.pow_lt_pow_right (by decide) h

theorem mask_n (n : Nat) (h : n < 64) : IntKind.u64.wrap (shl .u64 1 (n : Int) - 1) = ((2 ^ n - 1 : Nat) : Int) := by
  have h1 := two_pow_lt n h
  have h2 := Nat.two_pow_pos n
  rw [show (1 : Int) = ((1 : Nat) : Int) from rfl, shl_n, Nat.min_eq_left (by omega), Nat.one_mul, Nat.mod_eq_of_lt h1]
  rw [show (((2 ^ n : Nat) : Int) - ((1 : Nat) : Int)) = ((2 ^ n - 1 : Nat) : Int) by omega, wrap_u _ (by omega)]

theorem toNat_u (a : Nat) (h : a < 18446744073709551616) : (BitVec.ofInt 64 (a : Int)).toNat = a := by
  rw [BitVec.ofInt_natCast, BitVec.toNat_ofNat]; exact Nat.mod_eq_of_lt (by omega)

theorem and_n (a b : Nat) (ha : a < 18446744073709551616) (hb : b < 18446744073709551616) : Go.bits .and .u64 (a : Int) (b : Int) = ((a &&& b : Nat) : Int) := bits_and_u64_nat a b ha hb
theorem or_n (a b : Nat) (ha : a < 18446744073709551616) (hb : b < 18446744073709551616) : Go.bits .or .u64 (a : Int) (b : Int) = ((a ||| b : Nat) : Int) := bits_or_u64_nat a b ha hb
theorem andNot_n (a b : Nat) (ha : a < 18446744073709551616) (hb : b < 18446744073709551616) :
    Go.bits .andNot .u64 (a : Int) (b : Int) = ((a &&& (18446744073709551615 - b) : Nat) : Int) := by
  have hx : a &&& (18446744073709551615 - b) < 2 ^ 64 := Nat.and_lt_two_pow _ (by rw [pow64]; omega)
  show IntKind.u64.wrap ((BitVec.ofInt 64 (a : Int) &&& ~~~ BitVec.ofInt 64 (b : Int)).toNat : Int) = _
  rw [BitVec.toNat_and, BitVec.toNat_not, toNat_u a ha, toNat_u b hb]
  rw [pow64] at hx ⊢
  rw [show 18446744073709551616 - 1 - b = 18446744073709551615 - b by omega]
  exact wrap_u _ hx

/-- A field of a word. -/
def getN (w lo n : Nat) : Nat := w / 2 ^ (min lo 64) &&& (2 ^ (min n 64) - 1)
/-- A word whose field is another one. -/
def setN (w lo n v : Nat) : Nat :=
  (w &&& (18446744073709551615 - (2 ^ (min n 64) - 1) * 2 ^ (min lo 64) % 18446744073709551616)) |||
    (v * 2 ^ (min lo 64) % 18446744073709551616 &&& (2 ^ (min n 64) - 1) * 2 ^ (min lo 64) % 18446744073709551616)

theorem lt_of_pow (a : Nat) : a < 2 ^ 64 ↔ a < 18446744073709551616 := by rw [pow64]

theorem getN_mod (w lo n : Nat) (hlo : lo ≤ 64) (hn : n ≤ 64) : getN w lo n = w / 2 ^ lo % 2 ^ n := by
  unfold getN
  rw [Nat.min_eq_left hlo, Nat.min_eq_left hn, Nat.and_two_pow_sub_one_eq_mod]
theorem getN_lt (w lo n : Nat) (hw : w < 18446744073709551616) : getN w lo n < 18446744073709551616 := by
  unfold getN
  refine Nat.lt_of_le_of_lt Nat.and_le_left (Nat.lt_of_le_of_lt (Nat.div_le_self _ _) hw)
theorem testBit_getN (w lo n i : Nat) (hw : w < 18446744073709551616) : (getN w lo n).testBit i = (decide (i < n) && w.testBit (lo + i)) := by
  unfold getN
  have hw' : w < 2 ^ 64 := (lt_of_pow w).2 hw
  rw [Nat.testBit_and, Nat.testBit_two_pow_sub_one, ← Nat.shiftRight_eq_div_pow, Nat.testBit_shiftRight]
  by_cases h : lo ≤ 64
  · rw [Nat.min_eq_left h]
    by_cases h2 : n ≤ 64
    · rw [Nat.min_eq_left h2, Bool.and_comm]
    · rw [Nat.min_eq_right (by omega), Bool.and_comm]
      by_cases h3 : i < 64
      · simp [h3, show i < n by omega]
      · simp [h3, Nat.testBit_lt_two_pow (Nat.lt_of_lt_of_le hw' (Nat.pow_le_pow_right (by decide) (show 64 ≤ lo + i by omega)))]
  · rw [Nat.min_eq_right (by omega), Nat.testBit_lt_two_pow (Nat.lt_of_lt_of_le hw' (Nat.pow_le_pow_right (by decide) (show 64 ≤ 64 + i by omega))),
      Nat.testBit_lt_two_pow (Nat.lt_of_lt_of_le hw' (Nat.pow_le_pow_right (by decide) (show 64 ≤ lo + i by omega)))]
    simp

theorem testBit_all (b i : Nat) (hb : b < 18446744073709551616) : (18446744073709551615 - b).testBit i = (decide (i < 64) && !b.testBit i) := by
  have := Nat.testBit_two_pow_sub_succ (n := 64) (x := b) (by omega) i
  rw [← this, pow64, show 18446744073709551615 - b = 18446744073709551616 - (b + 1) by omega]
theorem testBit_shl (v lo i : Nat) : (v * 2 ^ (min lo 64) % 18446744073709551616).testBit i = (decide (i < 64) && (decide (lo ≤ i) && v.testBit (i - lo))) := by
  rw [← pow64, Nat.testBit_mod_two_pow]
  by_cases hi : i < 64
  · simp only [hi, decide_true, Bool.true_and]
    rw [← Nat.shiftLeft_eq, Nat.testBit_shiftLeft]
    by_cases h : lo ≤ 64
    · rw [Nat.min_eq_left h]
    · rw [Nat.min_eq_right (by omega)]; simp [show ¬ 64 ≤ i by omega, show ¬ lo ≤ i by omega]
  · simp [hi]
theorem setN_lt (w lo n v : Nat) : setN w lo n v < 18446744073709551616 := by
  unfold setN
  rw [← lt_of_pow]
  refine Nat.or_lt_two_pow (Nat.and_lt_two_pow _ ?_) (Nat.and_lt_two_pow _ ?_)
  · rw [pow64]; omega
  · rw [pow64]; exact Nat.mod_lt _ (by decide)
theorem testBit_setN (w lo n v i : Nat) (hw : w < 18446744073709551616) :
    (setN w lo n v).testBit i = if lo ≤ i ∧ i < lo + n ∧ i < 64 then v.testBit (i - lo) else w.testBit i := by
  unfold setN
  have hw' : w < 2 ^ 64 := (lt_of_pow w).2 hw
  have hm : (2 ^ (min n 64) - 1) * 2 ^ (min lo 64) % 18446744073709551616 < 18446744073709551616 := Nat.mod_lt _ (by decide)
  rw [Nat.testBit_or, Nat.testBit_and, Nat.testBit_and, testBit_all _ _ hm, testBit_shl, testBit_shl, Nat.testBit_two_pow_sub_one]
  by_cases hi : i < 64
  · by_cases hlo : lo ≤ i
    · by_cases hn : i < lo + n
      · simp [hi, hlo, hn, show i - lo < min n 64 by omega]
      · simp [hi, hlo, hn, show ¬ i - lo < min n 64 by omega]
    · simp [hi, hlo]
  · simp [hi, Nat.testBit_lt_two_pow (Nat.lt_of_lt_of_le hw' (Nat.pow_le_pow_right (by decide) (show 64 ≤ i by omega)))]

/-- What the printed 'bits.Get' and 'bits.Set' come to, once the mask is known. -/
theorem get_raw (w lo n : Nat) (hw : w < 18446744073709551616) :
    Go.bits .and .u64 (shr .u64 (w : Int) (lo : Int)) ((2 ^ (min n 64) - 1 : Nat) : Int) = ((getN w lo n : Nat) : Int) := by
  rw [shr_n, and_n]
  · rfl
  · exact Nat.lt_of_le_of_lt (Nat.div_le_self _ _) hw
  · have := two_pow_le (min n 64) (by omega); have := Nat.two_pow_pos (min n 64); omega
theorem set_raw (w lo n v : Nat) (hw : w < 18446744073709551616) :
    Go.bits .or .u64 (Go.bits .andNot .u64 (w : Int) (shl .u64 ((2 ^ (min n 64) - 1 : Nat) : Int) (lo : Int))) (Go.bits .and .u64 (shl .u64 (v : Int) (lo : Int)) (shl .u64 ((2 ^ (min n 64) - 1 : Nat) : Int) (lo : Int))) = ((setN w lo n v : Nat) : Int) := by
  have hm : (2 ^ (min n 64) - 1) * 2 ^ (min lo 64) % 18446744073709551616 < 18446744073709551616 := Nat.mod_lt _ (by decide)
  have hv : v * 2 ^ (min lo 64) % 18446744073709551616 < 18446744073709551616 := Nat.mod_lt _ (by decide)
  rw [shl_n, shl_n, andNot_n _ _ hw hm, and_n _ _ hv hm, or_n]
  · rfl
  · exact Nat.lt_of_le_of_lt Nat.and_le_left hw
  · exact Nat.lt_of_le_of_lt Nat.and_le_left hv

theorem eq_of_bits {a b : Nat} (h : ∀ i, a.testBit i = b.testBit i) : a = b := Nat.eq_of_testBit_eq h
/-- Bits beyond the word are nought. -/
theorem bit_high (w i : Nat) (hw : w < 18446744073709551616) (hi : 64 ≤ i) : w.testBit i = false :=
  Nat.testBit_lt_two_pow (Nat.lt_of_lt_of_le ((lt_of_pow w).2 hw) (Nat.pow_le_pow_right (by decide) hi))
/-- A field set above a smaller number is a sum. -/
theorem setN_add (w lo n v : Nat) (hln : lo + n ≤ 64) (hw : w < 2 ^ lo) (hv : v < 2 ^ n) : setN w lo n v = w + 2 ^ lo * v := by
  have h8 := two_pow_le lo (by omega)
  refine eq_of_bits fun j => ?_
  rw [testBit_setN _ _ _ _ _ (by omega), Nat.add_comm w, Nat.testBit_two_pow_mul_add v hw j]
  by_cases h1 : j < lo
  · rw [if_neg (by omega), if_pos h1]
  · rw [if_neg h1]
    by_cases h2 : j < lo + n
    · rw [if_pos (by omega)]
    · rw [if_neg (by omega), Nat.testBit_lt_two_pow (Nat.lt_of_lt_of_le hw (Nat.pow_le_pow_right (by decide) (by omega))),
        Nat.testBit_lt_two_pow (Nat.lt_of_lt_of_le hv (Nat.pow_le_pow_right (by decide) (by omega)))]
theorem u64_of (x : Int) (h : (Lit.int .u64 x).wf = true) : ∃ n : Nat, x = (n : Int) ∧ n < 18446744073709551616 := by
  simp [Lit.wf, IntKind.min, IntKind.max, IntKind.signed, IntKind.bits] at h
  exact ⟨x.toNat, by omega, by omega⟩
theorem u8_of (x : Int) (h : (Lit.int .u8 x).wf = true) : 0 ≤ x ∧ x ≤ 255 := by
  simp [Lit.wf, IntKind.min, IntKind.max, IntKind.signed, IntKind.bits] at h
  omega
theorem u16_of (x : Int) (h : (Lit.int .u16 x).wf = true) : 0 ≤ x ∧ x ≤ 65535 := by
  simp [Lit.wf, IntKind.min, IntKind.max, IntKind.signed, IntKind.bits] at h
  omega
theorem u32_of (x : Int) (h : (Lit.int .u32 x).wf = true) : 0 ≤ x ∧ x ≤ 4294967295 := by
  simp [Lit.wf, IntKind.min, IntKind.max, IntKind.signed, IntKind.bits] at h
  omega
theorem i64_of (x : Int) (h : (Lit.int .i64 x).wf = true) : -9223372036854775808 ≤ x ∧ x ≤ 9223372036854775807 := by
  simp [Lit.wf, IntKind.min, IntKind.max, IntKind.signed, IntKind.bits] at h
  omega
end Go.Proofs.Ythfmhcbeodjffaa.Bits
