/- math/bits.TrailingZeros64, walked: the place of the lowest set bit, while its table holds what its declaration lays. -/
import Derived.Test.YtjalglcmpnjeoaaDoorProg
import Derived.Test.YtjalglcmpnjeoaaDoorWMore
import Derived.Test.YtjalglcmpnjeoaaDoorBits
import Derived.WalkLawsBesides
import Derived.Lib.Hide
set_option linter.unusedVariables false
set_option linter.unusedSimpArgs false
namespace Go.Proofs.YtjalglcmpnjeoaaDoor
open Go.RowKit Go.Proofs.YtjalglcmpnjeoaaDoorW.PrintWords Go.Proofs.YtjalglcmpnjeoaaDoor.Bits

def tab : List Int := [0, 1, 56, 2, 57, 49, 28, 3, 61, 58, 42, 50, 38, 29, 17, 4, 62, 47, 59, 36, 45, 43, 51, 22, 53, 39, 33, 30, 24, 18, 12, 5, 63, 55, 48, 27, 60, 41, 37, 16, 46, 35, 44, 21, 52, 32, 23, 11, 54, 26, 40, 15, 34, 20, 31, 10, 25, 14, 19, 9, 13, 8, 7, 6]
/-- The table holds what its declaration lays. -/
structure Ld (w : World) : Prop where
  b0 : ∃ t fr, w.heap[0]? = some (.cells (tab.map fun z => Value.int .u8 z).toArray t fr)
theorem Ld.size {w : World} (h : Ld w) : 0 < w.heap.size := by
  obtain ⟨t, fr, e⟩ := h.b0
  exact (Array.getElem?_eq_some_iff.1 e).1
theorem Ld.below {w w1 : World} (h : Ld w) (hb : Below w.heap.size w w1) : Ld w1 := by
  have hz := h.size
  obtain ⟨t0, fr0, e0⟩ := h
  exact ⟨t0, fr0, (hb.block 0 (by omega)).trans e0⟩
theorem Ld.alloc {w : World} (h : Ld w) (o : Obj) : Ld (w.alloc o) := h.below ((Below.refl _ _).alloc (Nat.le_refl _) _)
theorem Ld.cell {w : World} (h : Ld w) (i : Nat) (hi : i < 64) : w.cell? ⟨0, i, none⟩ = some (.int .u8 (tab.getD i 0)) := by
  obtain ⟨t, fr, e⟩ := h.b0
  have hl : tab.length = 64 := rfl
  simp [World.cell?, e, List.getElem?_eq_getElem (show i < tab.length by omega), List.getD_eq_getElem?_getD]

/-- The place of the lowest set bit; 64 where there is none. -/
def ctz (n : Nat) : Nat := ((List.range 64).find? fun i => n.testBit i).getD 64
theorem ctz_none (n : Nat) (h : ∀ i < 64, n.testBit i = false) : ctz n = 64 := by
  unfold ctz
  rw [List.find?_eq_none.2]
  · rfl
  · intro i hi
    rw [h i (List.mem_range.1 hi)]
    decide
theorem ctz_some (n : Nat) (i : Nat) (hi : i < 64) (hb : n.testBit i = true) (hlow : ∀ j < i, n.testBit j = false) : ctz n = i := by
  unfold ctz
  have : (List.range 64).find? (fun i => n.testBit i) = some i := by
    rw [List.find?_range_eq_some]
    exact ⟨hb, List.mem_range.2 hi, fun j hj => by rw [hlow j hj]; rfl⟩
  rw [this]
  rfl
theorem ctz_cases (n : Nat) : (ctz n = 64 ∧ ∀ i < 64, n.testBit i = false) ∨ (ctz n < 64 ∧ n.testBit (ctz n) = true ∧ ∀ j < ctz n, n.testBit j = false) := by
  unfold ctz
  cases h : (List.range 64).find? (fun i => n.testBit i) with
  | none =>
    refine .inl ⟨rfl, fun i hi => ?_⟩
    have := List.find?_eq_none.1 h i (List.mem_range.2 hi)
    simpa using this
  | some i =>
    rw [List.find?_range_eq_some] at h
    refine .inr ⟨List.mem_range.1 h.2.1, h.1, fun j hj => ?_⟩
    have := h.2.2 j hj
    simpa using this
theorem ctz_zero : ctz 0 = 64 := ctz_none 0 fun i _ => by simp
theorem ctz_pos (n : Nat) (h : n < 18446744073709551616) (h0 : n ≠ 0) : ctz n < 64 := by
  rcases ctz_cases n with ⟨_, hz⟩ | ⟨h1, _⟩
  · exact absurd (eq_of_bits fun i => by
      by_cases hi : i < 64
      · rw [hz i hi]; simp
      · rw [bit_high n i h (by omega)]; simp) h0
  · exact h1
/-- A number and its negative have the lowest set bit in common, and no other. -/
theorem and_neg (n : Nat) (h : n < 18446744073709551616) (h0 : n ≠ 0) : n &&& (18446744073709551616 - n) = 2 ^ ctz n := by
  have ht := ctz_pos n h h0
  rcases ctz_cases n with ⟨e, _⟩ | ⟨_, hb, hl⟩
  · omega
  · generalize ctz n = t at ht hb hl
    have hmod : n % 2 ^ (t + 1) = 2 ^ t := by
      refine eq_of_bits fun j => ?_
      rw [Nat.testBit_mod_two_pow, Nat.testBit_two_pow]
      by_cases hj : j < t
      · rw [hl j hj]; simp; omega
      · by_cases hj2 : j = t
        · subst hj2; simp [hb]
        · simp [show ¬ j < t + 1 by omega, show ¬ t = j by omega]
    have hn : n = 2 ^ (t + 1) * (n / 2 ^ (t + 1)) + 2 ^ t := by
      have := Nat.div_add_mod n (2 ^ (t + 1))
      omega
    generalize hm : n / 2 ^ (t + 1) = m at hn
    have h64 : (18446744073709551616 : Nat) = 2 ^ (t + 1) * 2 ^ (63 - t) := by
      rw [← pow64, ← Nat.pow_add]; congr 1; omega
    have hp := Nat.two_pow_pos (t + 1)
    have hpt : 2 ^ (t + 1) = 2 ^ t + 2 ^ t := by rw [Nat.pow_succ]; omega
    have hmlt : m < 2 ^ (63 - t) := by
      have : 2 ^ (t + 1) * m < 2 ^ (t + 1) * 2 ^ (63 - t) := by omega
      exact Nat.lt_of_mul_lt_mul_left this
    have hneg : 18446744073709551616 - n = 2 ^ (t + 1) * (2 ^ (63 - t) - (m + 1)) + 2 ^ t := by
      have e1 : 2 ^ (t + 1) * (2 ^ (63 - t) - (m + 1)) = 2 ^ (t + 1) * 2 ^ (63 - t) - 2 ^ (t + 1) * (m + 1) := Nat.mul_sub _ _ _
      have e2 : 2 ^ (t + 1) * (m + 1) = 2 ^ (t + 1) * m + 2 ^ (t + 1) := Nat.mul_succ _ _
      have e3 : 2 ^ (t + 1) * (m + 1) ≤ 2 ^ (t + 1) * 2 ^ (63 - t) := Nat.mul_le_mul_left _ hmlt
      omega
    have hlt : 2 ^ t < 2 ^ (t + 1) := Nat.pow_lt_pow_right (by decide) (by omega)
    refine eq_of_bits fun j => ?_
    rw [hneg, hn, Nat.testBit_and, Nat.testBit_two_pow_mul_add _ hlt, Nat.testBit_two_pow_mul_add _ hlt]
    by_cases hj : j < t + 1
    · simp [hj]
    · simp only [hj, if_false]
      rw [Nat.testBit_two_pow_sub_succ hmlt, Nat.testBit_two_pow]
      simp only [show ¬ t = j by omega, decide_false]
      cases m.testBit (j - (t + 1)) <;> simp
theorem tab_ok : ∀ t : Nat, t < 64 → (2 ^ t * 285870213051353865 % 18446744073709551616 / 288230376151711744) < 64 ∧ tab.getD (2 ^ t * 285870213051353865 % 18446744073709551616 / 288230376151711744) 0 = (t : Int) := by decide +kernel

namespace Hand
/-- As the printed functions have it: of a word. -/
def tz (a : Int) : Option Int := if 0 ≤ a ∧ a < 18446744073709551616 then some ((ctz a.toNat : Nat) : Int) else none
theorem tz_walk (x p q r t : Int) (w : World) (hx : ((x : Int) == 0) = false) (hp : Go.bits .and .u64 x (IntKind.u64.wrap (-x)) = p) (hq : IntKind.u64.wrap (p * 285870213051353865) = q) (hr : q / 288230376151711744 = r)
    (h0 : 0 ≤ r) (h1 : r < 64) (hc : w.cell? ⟨0, r.toNat, none⟩ = some (.int .u8 t)) (ht : wrap64 t = t) :
    Calls Tryd.prog 21 #[.int .u64 x] w fun e w' => e = .returned (.int .i64 t) ∧ Below w.heap.size w w' := by
  have hid := Lib.hid (Below.refl w.heap.size w)
  have HT := Lib.hid ht
  clear ht
  go_enter Tryd.func21, Tryd.ntmps21
  go_wp2_with fail
  go_ret
  exact ⟨by rw [HT.out]; rfl, hid.out⟩
theorem tz_zero (x : Int) (w : World) (hx : ((x : Int) == 0) = true) : Calls Tryd.prog 21 #[.int .u64 x] w fun e w' => e = .returned (.int .i64 64) ∧ Below w.heap.size w w' := by
  have hid := Lib.hid (Below.refl w.heap.size w)
  go_enter Tryd.func21, Tryd.ntmps21
  go_wp2_with fail
  exact bodyPost_ret (v := .int .i64 64) (by simp [results, Tryd.results21, go_sem]) rfl ⟨rfl, hid.out⟩
theorem mul_n (p c : Nat) : IntKind.u64.wrap ((p : Int) * (c : Int)) = ((p * c % 18446744073709551616 : Nat) : Int) := by
  rw [show ((p : Int) * (c : Int)) = ((p * c : Nat) : Int) from (Int.natCast_mul p c).symm, wrap_u']
theorem div_n (p c : Nat) : (p : Int) / (c : Int) = ((p / c : Nat) : Int) := by simp
theorem neg_n (n : Nat) (h0 : n ≠ 0) (hn : n < 18446744073709551616) : IntKind.u64.wrap (-(n : Int)) = ((18446744073709551616 - n : Nat) : Int) := by rw [IntKind.wrap_u64]; omega
theorem tz_pos (n p g : Nat) (w : World) (h : Ld w) (hn : n < 18446744073709551616) (h0 : n ≠ 0) (hp : n &&& (18446744073709551616 - n) = p) (hg : p * 285870213051353865 % 18446744073709551616 / 288230376151711744 = g) (k1 : g < 64) (t : Nat) (ht : t < 64) (k2 : tab.getD g 0 = (t : Int)) :
    Calls Tryd.prog 21 #[.int .u64 (n : Int)] w fun e w' => e = .returned (.int .i64 (t : Int)) ∧ Below w.heap.size w w' := by
  have e2 : Go.bits .and .u64 (n : Int) (IntKind.u64.wrap (-(n : Int))) = (p : Int) := by
    rw [neg_n n h0 hn, and_n _ _ hn (by omega), hp]
  have hc := h.cell g k1
  rw [k2] at hc
  exact tz_walk (n : Int) (p : Int) ((p * 285870213051353865 % 18446744073709551616 : Nat) : Int) (g : Int) (t : Int) w (by simp; omega) e2 (mul_n p 285870213051353865) ((div_n _ 288230376151711744).trans (by rw [hg])) (by omega) (by omega) (by simpa using hc) (w64_small _ (by omega) (by omega))
theorem tz_nat (n : Nat) (w : World) (h : Ld w) (hn : n < 18446744073709551616) :
    Calls Tryd.prog 21 #[.int .u64 (n : Int)] w fun e w' => e = .returned (.int .i64 ((ctz n : Nat) : Int)) ∧ Below w.heap.size w w' := by
  by_cases h0 : n = 0
  · subst h0
    rw [ctz_zero]
    exact tz_zero _ w rfl
  · have ht := ctz_pos n hn h0
    exact tz_pos n (2 ^ ctz n) _ w h hn h0 (and_neg n hn h0) rfl (tab_ok (ctz n) ht).1 (ctz n) ht (tab_ok (ctz n) ht).2
theorem tz_calls (a0 : Int) (r : Int) (w : World) (hl : Ld w) (h : tz a0 = some r) :
    Calls Tryd.prog 21 #[.int .u64 a0] w fun e w' => e = .returned (.int .i64 r) ∧ Below w.heap.size w w' := by
  unfold tz at h
  split at h
  · rename_i hh
    obtain ⟨n, rfl⟩ := Int.eq_ofNat_of_zero_le hh.1
    obtain rfl := Option.some.inj h
    exact tz_nat n w hl (by omega)
  · cases h
end Hand
end Go.Proofs.YtjalglcmpnjeoaaDoor
