/- Of all sixteen modes one translates, one more may be, whose word is 0, and each field is told by its own bits; no condition. -/
import Derived.Test.YtopdfddoadcjoaaPSatpModesx3
import Derived.Test.YtopdfddoadcjoaaPSatpModesC
set_option linter.unusedVariables false
set_option linter.unusedSimpArgs false
namespace Go.Proofs.Ytopdfddoadcjoaa.Pure
open Go.RowKit Go.Proofs.Ytopdfddoadcjoaa.PSatpModes Go.Proofs.YtopdfddoadcjoaaW.PrintWords Go.Proofs.YtopdfddoadcjoaaW.PrintLast Go.Proofs.Ytopdfddoadcjoaa.Bits

/-- The word of three fields. -/
theorem word (m a p : Nat) (hm : m < 16) (ha : a < 65536) (hp : p < 17592186044416) :
    Go.bits .or .u64 (Go.bits .or .u64 ((m * 1152921504606846976 : Nat) : Int) ((a * 17592186044416 : Nat) : Int)) (p : Int) = ((m * 1152921504606846976 + a * 17592186044416 + p : Nat) : Int) := by
  rw [or_n _ _ (by omega) (by omega)]
  have e1 : m * 1152921504606846976 ||| a * 17592186044416 = m * 1152921504606846976 + a * 17592186044416 := by
    have := Nat.two_pow_add_eq_or_of_lt (show a * 17592186044416 < 2 ^ 60 by omega) m
    rw [show 2 ^ 60 * m = m * 1152921504606846976 by omega] at this
    exact this.symm
  rw [e1, or_n _ _ (by omega) (by omega)]
  have e2 : (m * 1152921504606846976 + a * 17592186044416) ||| p = (m * 1152921504606846976 + a * 17592186044416) + p := by
    have := Nat.two_pow_add_eq_or_of_lt (show p < 2 ^ 44 by omega) (m * 65536 + a)
    rw [show 2 ^ 44 * (m * 65536 + a) = m * 1152921504606846976 + a * 17592186044416 by omega] at this
    exact this.symm
  rw [e2]

theorem one (m a p : Nat) (hm : m < 16) (ha : a < 65536) (hp : p < 17592186044416) :
    satp_Get.f ((m * 1152921504606846976 + a * 17592186044416 + p : Nat) : Int) = if MayP m a p then some ((m : Int), (a : Int), (p : Int), 0) else some (0, 0, 0, 1) := by
  rw [sget_f _ (by omega), show (m * 1152921504606846976 + a * 17592186044416 + p) / 1152921504606846976 = m by omega, show (m * 1152921504606846976 + a * 17592186044416 + p) / 17592186044416 % 65536 = a by omega,
    show (m * 1152921504606846976 + a * 17592186044416 + p) % 17592186044416 = p by omega]
theorem arg (m a p : Nat) (hm : m < 16) (ha : a < 65536) (hp : p < 17592186044416) :
    Go.bits .or .u64 (Go.bits .or .u64 (IntKind.u64.wrap ((IntKind.u64.wrap (m : Int)) * 1152921504606846976)) (IntKind.u64.wrap ((IntKind.u64.wrap (a : Int)) * 17592186044416))) (p : Int) = ((m * 1152921504606846976 + a * 17592186044416 + p : Nat) : Int) := by
  rw [wrap_u m (by omega), wrap_u a (by omega), show ((m : Int) * 1152921504606846976) = ((m * 1152921504606846976 : Nat) : Int) by omega, show ((a : Int) * 17592186044416) = ((a * 17592186044416 : Nat) : Int) by omega,
    wrap_u _ (by omega), wrap_u _ (by omega), word m a p hm (by omega) hp]
theorem tm (x d : Nat) (hd : 0 < d) : Int.tmod (x : Int) (d : Int) = ((x % d : Nat) : Int) := by
  rw [Int.tmod_eq_emod_of_nonneg (by omega)]; simp
theorem nat_beq (a b : Nat) : ((a : Int) == (b : Int)) = decide (a = b) := by
  rw [Bool.eq_iff_iff, beq_iff_eq, decide_eq_true_eq]; omega
theorem cast_eq (a b : Nat) : ((a : Int) = (b : Int)) = (a = b) := propext ⟨by omega, by omega⟩

theorem SatpModes : atlaslaw07_SatpModes.Pure := by
  intro a0 a1 a2 h0 h1 h2
  obtain ⟨q, rfl, hq⟩ := u64_of a2 h2
  obtain ⟨w0, w1⟩ := u8_of a0 h0
  obtain ⟨w2, w3⟩ := u16_of a1 h1
  obtain ⟨a, rfl⟩ := Int.eq_ofNat_of_zero_le w2
  obtain ⟨m0, rfl⟩ := Int.eq_ofNat_of_zero_le w0
  have em : Int.tmod (m0 : Int) 16 = ((m0 % 16 : Nat) : Int) := tm m0 16 (by decide)
  have ep : Int.tmod (q : Int) 17592186044416 = ((q % 17592186044416 : Nat) : Int) := tm q 17592186044416 (by decide)
  have hm : m0 % 16 < 16 := Nat.mod_lt _ (by decide)
  have hp : q % 17592186044416 < 17592186044416 := Nat.mod_lt _ (by decide)
  unfold atlaslaw07_SatpModes.f
  rw [awake_f, em, ep]
  generalize m0 % 16 = m at hm
  generalize q % 17592186044416 = p at hp
  have ha : a < 65536 := by omega
  clear em ep h0 h1 h2 w0 w1 w2 w3 hq m0 q
  rw [Option.bind_some, if_pos rfl, arg m a p hm ha hp, one m a p hm ha hp, wrap_u m (by omega), wrap_u a (by omega)]
  have e8 : ((m : Int) = 8) = (m = 8) := cast_eq m 8
  have em0 : ((m : Int) = 0) = (m = 0) := cast_eq m 0
  have ea0 : ((a : Int) = 0) = (a = 0) := cast_eq a 0
  have ep0 : ((p : Int) = 0) = (p = 0) := cast_eq p 0
  have em8 : ((m : Int) == 8) = decide (m = 8) := nat_beq m 8
  by_cases h8 : m = 8
  · rw [if_pos (show MayP m a p from .inl ⟨h8, ha, hp⟩)]
    rw [Option.bind_some]
    simp only [satp_On.f, Option.bind_some, e8, h8, if_true]
    have := may_f 8 a p (by omega) (by omega) (by omega)
    rw [decide_eq_true (show MayP 8 a p from .inl ⟨rfl, ha, hp⟩)] at this
    rw [show ((8 : Nat) : Int) = 8 from rfl] at this ⊢
    rw [this]
    rfl
  · by_cases hz : m = 0 ∧ a = 0 ∧ p = 0
    · rw [if_pos (show MayP m a p from .inr hz)]
      obtain ⟨rfl, rfl, rfl⟩ := hz
      rfl
    · have hno : ¬ MayP m a p := by
        rintro (h | h)
        · exact h8 h.1
        · exact hz h
      rw [if_neg hno]
      simp only [Option.bind_some, e8, em0, ea0, ep0, h8, if_false]
      by_cases hm0 : m = 0
      · rw [if_pos hm0]
        by_cases ha0 : a = 0
        · rw [if_pos ha0, if_neg fun h => hz ⟨hm0, ha0, h⟩]; rfl
        · rw [if_neg ha0]; rfl
      · rw [if_neg hm0]; rfl
end Go.Proofs.Ytopdfddoadcjoaa.Pure
