/- What the printed bits.mask, bits.Get and bits.Set answer, over natural numbers. -/
import Derived.Test.YthfmhcbeodjffaaPBytesPutsx1
import Derived.Test.YthfmhcbeodjffaaBits
set_option linter.unusedVariables false
set_option linter.unusedSimpArgs false
namespace Go.Proofs.Ythfmhcbeodjffaa.PBytesPuts
open Go.RowKit Go.Proofs.YthfmhcbeodjffaaW.PrintWords Go.Proofs.Ythfmhcbeodjffaa.Bits

theorem mask_f (n : Nat) (hn : n < 9223372036854775808) : bits_mask.f (n : Int) = some ((2 ^ (min n 64) - 1 : Nat) : Int) := by
  unfold bits_mask.f
  by_cases h : n < 64
  · rw [if_neg (by omega), wrap_u n (by omega), if_pos (by omega), mask_n n h, Nat.min_eq_left (by omega)]
  · rw [if_pos (by omega), Nat.min_eq_right (by omega)]; rfl
theorem get_f (w lo n : Nat) (hw : w < 18446744073709551616) (hlo : lo < 9223372036854775808) (hn : n < 9223372036854775808) :
    bits_Get.f (w : Int) (lo : Int) (n : Int) = some ((getN w lo n : Nat) : Int) := by
  unfold bits_Get.f
  rw [wrap_u lo (by omega), if_pos (by omega), mask_f n hn]
  simp only [Option.bind_some]
  rw [get_raw w lo n hw]
theorem set_f (w lo n v : Nat) (hw : w < 18446744073709551616) (hlo : lo < 9223372036854775808) (hn : n < 9223372036854775808) :
    bits_Set.f (w : Int) (lo : Int) (n : Int) (v : Int) = some ((setN w lo n v : Nat) : Int) := by
  unfold bits_Set.f
  rw [mask_f n hn]
  simp only [Option.bind_some]
  rw [wrap_u lo (by omega), if_pos (by omega), set_raw w lo n v hw]
end Go.Proofs.Ythfmhcbeodjffaa.PBytesPuts
