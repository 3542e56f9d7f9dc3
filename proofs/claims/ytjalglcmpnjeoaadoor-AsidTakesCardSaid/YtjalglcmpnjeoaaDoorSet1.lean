/- Words as sets of bits: how many bits are set, the lowest of them; one more, one less. Plain numbers. -/
import Derived.Test.YtjalglcmpnjeoaaDoorPop
import Derived.Test.YtjalglcmpnjeoaaDoorHand
set_option linter.unusedVariables false
set_option linter.unusedSimpArgs false
namespace Go.Proofs.YtjalglcmpnjeoaaDoor.Pop
open Go.RowKit Go.Proofs.YtjalglcmpnjeoaaDoor.Bits

theorem pc_sum (m x : Nat) : pc m x = ((List.range m).map fun j => (x.testBit j).toNat).sum := by
  induction m generalizing x with
  | zero => rfl
  | succ m ih =>
    rw [pc, ih, List.range_succ_eq_map, List.map_cons, List.sum_cons, List.map_map]
    congr 1
    · rw [Nat.testBit_zero]; rcases Nat.mod_two_eq_zero_or_one x with h | h <;> simp [h]
    · congr 1
      refine List.map_congr_left fun j _ => ?_
      simp [Function.comp, Nat.testBit_succ]
theorem pc_congr (m x y : Nat) (h : ∀ j < m, x.testBit j = y.testBit j) : pc m x = pc m y := by
  rw [pc_sum, pc_sum]
  congr 1
  exact List.map_congr_left fun j hj => by rw [h j (List.mem_range.1 hj)]
theorem pc_one_more (m x y i : Nat) (hi : i < m) (hx : x.testBit i = false) (hy : y.testBit i = true) (h : ∀ j < m, j ≠ i → x.testBit j = y.testBit j) : pc m y = pc m x + 1 := by
  induction m with
  | zero => omega
  | succ m ih =>
    rw [pc_sum, pc_sum, List.range_succ, List.map_append, List.map_append, List.sum_append, List.sum_append, ← pc_sum, ← pc_sum]
    simp only [List.map_cons, List.map_nil, List.sum_cons, List.sum_nil, Nat.add_zero]
    by_cases e : i = m
    · subst e
      rw [hx, hy, pc_congr i y x fun j hj => (h j (by omega) (by omega)).symm]
      rfl
    · rw [ih (by omega) fun j hj hne => h j (by omega) hne, h m (by omega) (fun x => e x.symm)]
      omega
theorem pc_le (m x : Nat) : pc m x ≤ m := by
  induction m generalizing x with
  | zero => simp [pc]
  | succ m ih => rw [pc]; have := ih (x / 2); omega
theorem pc_zero_iff (m x : Nat) : pc m x = 0 ↔ ∀ j < m, x.testBit j = false := by
  induction m generalizing x with
  | zero => simp [pc]
  | succ m ih =>
    rw [pc]
    constructor
    · intro h j hj
      cases j with
      | zero => rw [Nat.testBit_zero]; simp; omega
      | succ j => rw [Nat.testBit_succ]; exact (ih (x / 2)).1 (by omega) j (by omega)
    · intro h
      have h0 := h 0 (by omega)
      rw [Nat.testBit_zero] at h0
      have h1 := (ih (x / 2)).2 fun j hj => by rw [← Nat.testBit_succ]; exact h (j + 1) (by omega)
      simp at h0
      omega
theorem bit_set (x i b j : Nat) (hx : x < 18446744073709551616) (hi : i < 64) (hb : b < 2) : (setN x i 1 b).testBit j = if j = i then decide (b = 1) else x.testBit j := by
  rw [testBit_setN _ _ _ _ _ hx]
  by_cases h : j = i
  · subst h
    rw [if_pos ⟨by omega, by omega, by omega⟩, if_pos rfl, Nat.sub_self, Nat.testBit_zero]
    have : b = 0 ∨ b = 1 := by omega
    rcases this with rfl | rfl <;> rfl
  · rw [if_neg (by omega), if_neg h]
theorem pc_add (x i : Nat) (hx : x < 18446744073709551616) (hi : i < 64) (h : x.testBit i = false) : pc 64 (setN x i 1 1) = pc 64 x + 1 :=
  pc_one_more 64 x _ i hi h (by rw [bit_set x i 1 i hx hi (by decide), if_pos rfl]; rfl) fun j _ hne => by rw [bit_set x i 1 j hx hi (by decide), if_neg hne]
theorem pc_sub (x i : Nat) (hx : x < 18446744073709551616) (hi : i < 64) (h : x.testBit i = true) : pc 64 x = pc 64 (setN x i 1 0) + 1 :=
  pc_one_more 64 _ x i hi (by rw [bit_set x i 0 i hx hi (by decide), if_pos rfl]; rfl) h fun j _ hne => by rw [bit_set x i 0 j hx hi (by decide), if_neg hne]
theorem get1 (x i : Nat) (hx : x < 18446744073709551616) (hi : i < 64) : getN x i 1 = (x.testBit i).toNat := by
  rw [getN_mod x i 1 (by omega) (by omega), Nat.testBit_eq_decide_div_mod_eq]
  have : x / 2 ^ i % 2 = 0 ∨ x / 2 ^ i % 2 = 1 := by omega
  rcases this with h | h <;> simp [h]
/-- No bit from a place on is set. -/
theorem low_iff (x n : Nat) (hx : x < 18446744073709551616) (hn : n ≤ 64) : getN x 0 n = x ↔ ∀ j, n ≤ j → x.testBit j = false := by
  constructor
  · intro h j hj
    rw [← h, testBit_getN _ _ _ _ hx]
    simp [show ¬ j < n by omega]
  · intro h
    refine eq_of_bits fun j => ?_
    rw [testBit_getN _ _ _ _ hx, Nat.zero_add]
    by_cases hj : j < n
    · simp [hj]
    · simp [hj, h j (by omega)]
/-- So many bits, all set. -/
theorem all_set (n : Nat) (hn : n ≤ 64) : ∀ j, (getN 18446744073709551615 0 n).testBit j = decide (j < n) := by
  intro j
  rw [testBit_getN _ _ _ _ (by decide), Nat.zero_add, show (18446744073709551615 : Nat) = 2 ^ 64 - 1 by decide, Nat.testBit_two_pow_sub_one]
  by_cases hj : j < n
  · simp [hj, show j < 64 by omega]
  · simp [hj]
theorem pc_all (n : Nat) (hn : n ≤ 64) : ∀ m x, (∀ j, x.testBit j = decide (j < n)) → pc m x = min n m := by
  intro m
  induction m generalizing n with
  | zero => intro x _; simp [pc]
  | succ m ih =>
    intro x h
    have h0 := h 0
    rw [Nat.testBit_zero] at h0
    have hs := ih (n - 1) (by omega) (x / 2) fun j => by rw [← Nat.testBit_succ, h]; simp; omega
    rw [pc, hs]
    by_cases hz : n = 0
    · subst hz; simp at h0; omega
    · have : 0 < n := by omega
      simp [this] at h0
      omega
end Go.Proofs.YtjalglcmpnjeoaaDoor.Pop
