/- What the printed functions of the reference of the package bytes answer. -/
import Derived.Test.YthfmhcbeodjffaaPBytesPutsC
set_option linter.unusedVariables false
set_option linter.unusedSimpArgs false
namespace Go.Proofs.Ythfmhcbeodjffaa.PBytesPuts
open Go.RowKit Go.Proofs.YthfmhcbeodjffaaW.PrintWords Go.Proofs.YthfmhcbeodjffaaW.PrintMore Go.Proofs.Ythfmhcbeodjffaa.Bits

theorem rput_l0 (v s : Nat) (hv : v < 18446744073709551616) (hs : s ≤ 8) (d : Nat) : ∀ k i : Nat, i ≤ s → s - i = d → d < k →
    atlasref02_Put.l0 k ((v / 256 ^ i : Nat) : Int) (s : Int) (up (bys v i)) (i : Int) = some (up (bys v s)) := by
  induction d with
  | zero =>
    intro k i h1 h2 hk
    obtain ⟨k, rfl⟩ : ∃ m, k = m + 1 := ⟨k - 1, by omega⟩
    simp only [atlasref02_Put.l0]
    rw [if_neg (by omega)]
    obtain rfl : i = s := by omega
    rfl
  | succ d ih =>
    intro k i h1 h2 hk
    obtain ⟨k, rfl⟩ : ∃ m, k = m + 1 := ⟨k - 1, by omega⟩
    have hle : v / 256 ^ i < 18446744073709551616 := Nat.lt_of_le_of_lt (Nat.div_le_self _ _) hv
    simp only [atlasref02_Put.l0]
    rw [if_pos (by omega), if_pos (by rw [up_len, bys_len]; omega), w64_small _ (by omega) (by omega),
      Int.tdiv_eq_ediv_of_nonneg (Int.natCast_nonneg _), Int.tmod_eq_emod_of_nonneg (Int.natCast_nonneg _)]
    have e1 : IntKind.u64.wrap (((v / 256 ^ i : Nat) : Int) / 256) = ((v / 256 ^ (i + 1) : Nat) : Int) := by
      rw [show (((v / 256 ^ i : Nat) : Int) / 256) = ((v / 256 ^ i / 256 : Nat) : Int) by omega, wrap_u _ (by omega), Nat.div_div_eq_div_mul, Nat.pow_succ]
    have e2 : up (bys v i) ++ [((v / 256 ^ i : Nat) : Int) % 256 % 256] = up (bys v (i + 1)) := by
      rw [bys_succ, up_app]
      congr 1
      simp only [up, List.map_cons, List.map_nil, List.cons.injEq, and_true]
      omega
    rw [e1, e2]
    exact ih k (i + 1) (by omega) (by omega) (by omega)
theorem rput_f (v s k : Nat) (hv : v < 18446744073709551616) (hs : s ≤ 8) (hk : s < k) : atlasref02_Put.f k (v : Int) (s : Int) = some (up (bys v s)) := by
  unfold atlasref02_Put.f
  have := rput_l0 v s hv hs s k 0 (by omega) (by omega) hk
  simpa [bys, up] using this
theorem rget_l0 (b : List Nat) (hb : ∀ x ∈ b, x < 256) (m : Nat) (hm : m ≤ b.length) (hm8 : m ≤ 8) (d : Nat) : ∀ k : Nat, d ≤ m → d < k →
    atlasref02_Get.l0 k (up b) ((val ((b.take m).drop d) : Nat) : Int) ((d : Int) - 1) = some ((val (b.take m) : Nat) : Int) := by
  induction d with
  | zero =>
    intro k h1 hk
    obtain ⟨k, rfl⟩ : ∃ m, k = m + 1 := ⟨k - 1, by omega⟩
    simp only [atlasref02_Get.l0]
    rw [if_neg (by omega)]
    rfl
  | succ d ih =>
    intro k h1 hk
    obtain ⟨k, rfl⟩ : ∃ m, k = m + 1 := ⟨k - 1, by omega⟩
    have hx : b.getD d 0 < 256 := by
      have : b.getD d 0 ∈ b := by
        rw [List.getD_eq_getElem?_getD, List.getElem?_eq_getElem (show d < b.length by omega)]
        exact List.getElem_mem _
      exact hb _ this
    have hl := val_lt ((b.take m).drop d) fun x hx => hb x (List.mem_of_mem_take (List.mem_of_mem_drop hx))
    rw [List.length_drop, List.length_take, Nat.min_eq_left hm] at hl
    have h8 := pow256_le (m - d) (by omega)
    have e : val ((b.take m).drop d) = b.getD d 0 + 256 * val ((b.take m).drop (d + 1)) := by
      rw [drop_cons' (b.take m) d (by rw [List.length_take]; omega), val]
      rw [List.getD_eq_getElem?_getD, List.getElem?_take_of_lt (by omega), ← List.getD_eq_getElem?_getD]
    simp only [atlasref02_Get.l0]
    rw [show (((d + 1 : Nat) : Int) - 1) = (d : Int) by omega]
    rw [if_pos (by omega), if_pos (by omega), if_pos (by rw [up_len]; omega), rd_up, wrap_u _ (by omega), w64_small _ (by omega) (by omega)]
    rw [show ((256 : Int) * ((val ((b.take m).drop (d + 1)) : Nat) : Int)) = ((256 * val ((b.take m).drop (d + 1)) : Nat) : Int) by simp, wrap_u _ (by omega),
      show (((256 * val ((b.take m).drop (d + 1)) : Nat) : Int) + ((b.getD d 0 : Nat) : Int)) = ((val ((b.take m).drop d) : Nat) : Int) by rw [e]; omega, wrap_u _ (by omega)]
    exact ih k (by omega) (by omega)
theorem rget_f (b : List Nat) (hb : ∀ x ∈ b, x < 256) (k : Nat) (hk : 8 < k) : atlasref02_Get.f k (up b) = some ((val (b.take 8) : Nat) : Int) := by
  unfold atlasref02_Get.f
  rw [up_len, mn_len]
  have := rget_l0 b hb (min b.length 8) (by omega) (by omega) (min b.length 8) k (by omega) (by omega)
  rw [show b.take (min b.length 8) = b.take 8 by rw [Nat.min_comm, ← List.take_take, List.take_length]] at this
  rw [List.drop_of_length_le (by rw [List.length_take]; omega)] at this
  exact this
theorem rlow_f (v s k : Nat) (hv : v < 18446744073709551616) (hs : s ≤ 8) (hk : 8 < k) : atlasref02_Low.f k (v : Int) (s : Int) = some ((v % 256 ^ s : Nat) : Int) := by
  unfold atlasref02_Low.f
  rw [rput_f v s k hv hs (by omega)]
  simp only [Option.bind_some]
  rw [rget_f _ (bys_lt _ _) k hk, List.take_of_length_le (by rw [bys_len]; omega), val_bys]
  rfl
theorem rsize_f (n : Int) : atlasref02_Size.f n = some (decide (n = 1 ∨ n = 2 ∨ n = 4 ∨ n = 8)) := size_f n
end Go.Proofs.Ythfmhcbeodjffaa.PBytesPuts
