/- math/bits.OnesCount64, as printed: the sum of the bits. -/
import Derived.Test.YtjalglcmpnjeoaaDoorSAsidAllx2
import Derived.Test.YtjalglcmpnjeoaaDoorPop
set_option linter.unusedVariables false
set_option linter.unusedSimpArgs false
namespace Go.Proofs.YtjalglcmpnjeoaaDoor.SAsidAll
open Go.RowKit Go.Proofs.YtjalglcmpnjeoaaDoorW.PrintWords Go.Proofs.YtjalglcmpnjeoaaDoor.Bits Go.Proofs.YtjalglcmpnjeoaaDoor.Pop

def i1 (a : Int) : Int := IntKind.u64.wrap ((Go.bits .and .u64 (a / 2) 6148914691236517205) + (Go.bits .and .u64 a 6148914691236517205))
def i2 (a : Int) : Int := IntKind.u64.wrap ((Go.bits .and .u64 (a / 4) 3689348814741910323) + (Go.bits .and .u64 a 3689348814741910323))
def i3 (a : Int) : Int := Go.bits .and .u64 (IntKind.u64.wrap ((a / 16) + a)) 1085102592571150095
def i4 (a : Int) : Int := IntKind.u64.wrap (a + (a / 256))
def i5 (a : Int) : Int := IntKind.u64.wrap (a + (a / 65536))
def i6 (a : Int) : Int := IntKind.u64.wrap (a + (a / 4294967296))
theorem ones_eq (a : Int) : bits_OnesCount64.f a = some (Go.bits .and .i64 (wrap64 (i6 (i5 (i4 (i3 (i2 (i1 a))))))) 127) := rfl
theorem i1_n (v : Nat) (hv : v < 18446744073709551616) (h : s1 v < 18446744073709551616) : i1 (v : Int) = ((s1 v : Nat) : Int) := by
  unfold i1
  have e1 := and_n (v / 2) 6148914691236517205 (by omega) (by omega)
  have e2 := and_n v 6148914691236517205 hv (by omega)
  rw [show ((v : Int) / 2) = ((v / 2 : Nat) : Int) by omega, show (6148914691236517205 : Int) = ((6148914691236517205 : Nat) : Int) from rfl, e1, e2]
  exact wrap_u _ h
theorem i2_n (v : Nat) (hv : v < 18446744073709551616) (h : s2 v < 18446744073709551616) : i2 (v : Int) = ((s2 v : Nat) : Int) := by
  unfold i2
  have e1 := and_n (v / 4) 3689348814741910323 (by omega) (by omega)
  have e2 := and_n v 3689348814741910323 hv (by omega)
  rw [show ((v : Int) / 4) = ((v / 4 : Nat) : Int) by omega, show (3689348814741910323 : Int) = ((3689348814741910323 : Nat) : Int) from rfl, e1, e2]
  exact wrap_u _ h
theorem i3_n (v : Nat) (hv : v < 9223372036854775808) : i3 (v : Int) = ((s3 v : Nat) : Int) := by
  unfold i3
  have e1 := and_n (v / 16 + v) 1085102592571150095 (by omega) (by omega)
  rw [show ((v : Int) / 16 + (v : Int)) = ((v / 16 + v : Nat) : Int) by omega, wrap_u _ (by omega), show (1085102592571150095 : Int) = ((1085102592571150095 : Nat) : Int) from rfl, e1]
  rfl
theorem i4_n (v : Nat) (h : v + v / 256 < 9223372036854775808) : i4 (v : Int) = ((v + v / 256 : Nat) : Int) := by
  unfold i4; rw [show ((v : Int) + (v : Int) / 256) = ((v + v / 256 : Nat) : Int) by omega, wrap_u _ (by omega)]
theorem i5_n (v : Nat) (h : v + v / 65536 < 9223372036854775808) : i5 (v : Int) = ((v + v / 65536 : Nat) : Int) := by
  unfold i5; rw [show ((v : Int) + (v : Int) / 65536) = ((v + v / 65536 : Nat) : Int) by omega, wrap_u _ (by omega)]
theorem i6_n (v : Nat) (h : v + v / 4294967296 < 9223372036854775808) : i6 (v : Int) = ((v + v / 4294967296 : Nat) : Int) := by
  unfold i6; rw [show ((v : Int) + (v : Int) / 4294967296) = ((v + v / 4294967296 : Nat) : Int) by omega, wrap_u _ (by omega)]
theorem and127 (z : Nat) (h : z < 9223372036854775808) : Go.bits .and .i64 (z : Int) 127 = ((z % 128 : Nat) : Int) := by
  have := Go.bits_mask .i64 63 (by decide) (fun n h0 h1 => by rw [IntKind.wrap_i64]; have : (2 : Int) ^ 63 = 9223372036854775808 := by decide
                                                              omega) 7 (by decide) (z : Int) (by omega) (by have : (2 : Int) ^ 63 = 9223372036854775808 := by decide
                                                                                                            omega)
  rw [show (127 : Int) = 2 ^ 7 - 1 from rfl, this]
  simp
/-- How many bits of a word are set. -/
theorem ones_f (v : Nat) (hv : v < 18446744073709551616) : bits_OnesCount64.f (v : Int) = some ((pc 64 v : Nat) : Int) := by
  obtain ⟨x, y, z, hx, hy, hz, hp, bx, by_, bz, h1, h2⟩ := steps v hv
  rw [ones_eq, i1_n v hv h1, i2_n _ h1 (by omega), i3_n _ h2, i4_n _ (by rw [← hx]; exact bx), ← hx, i5_n _ (by rw [← hy]; exact by_), ← hy, i6_n _ (by rw [← hz]; exact bz), ← hz, w64_small _ (by omega) (by omega), and127 _ bz, hp]
end Go.Proofs.YtjalglcmpnjeoaaDoor.SAsidAll
