/- What the printed functions of the package satp answer, over natural numbers. -/
import Derived.Test.YtopdfddoadcjoaaPSatpWordsB
set_option linter.unusedVariables false
set_option linter.unusedSimpArgs false
namespace Go.Proofs.Ytopdfddoadcjoaa.PSatpWords
open Go.RowKit Go.Proofs.YtopdfddoadcjoaaW.PrintWords Go.Proofs.Ytopdfddoadcjoaa.Bits

/-- A register may be. -/
def MayP (m a p : Nat) : Prop := (m = 8 ∧ a < 65536 ∧ p < 17592186044416) ∨ (m = 0 ∧ a = 0 ∧ p = 0)
instance (m a p : Nat) : Decidable (MayP m a p) := by unfold MayP; exact inferInstance
theorem g0 (w : Nat) : getN w 0 44 = w % 17592186044416 := by rw [getN_mod w 0 44 (by omega) (by omega)]; simp
theorem g16 (w : Nat) : getN w 0 16 = w % 65536 := by rw [getN_mod w 0 16 (by omega) (by omega)]; simp
theorem g44 (w : Nat) : getN w 44 16 = w / 17592186044416 % 65536 := by rw [getN_mod w 44 16 (by omega) (by omega)]
theorem g60 (w : Nat) : getN w 60 4 = w / 1152921504606846976 % 16 := by rw [getN_mod w 60 4 (by omega) (by omega)]
theorem may_f (m a p : Nat) (hm : m < 18446744073709551616) (ha : a < 18446744073709551616) (hp : p < 18446744073709551616) :
    satp_May.f (m : Int) (a : Int) (p : Int) = some (decide (MayP m a p)) := by
  unfold satp_May.f satp_On.f
  have e1 := get_f p 0 44 hp (by omega) (by omega)
  have e2 := get_f a 0 16 ha (by omega) (by omega)
  rw [g0] at e1
  rw [g16] at e2
  have e1' : bits_Get.f (p : Int) 0 44 = some ((p % 17592186044416 : Nat) : Int) := e1
  have e2' : bits_Get.f (a : Int) 0 16 = some ((a % 65536 : Nat) : Int) := e2
  simp only [Option.bind_some]
  by_cases h8 : m = 8
  · subst h8
    rw [if_pos (by decide), e1']
    simp only [Option.bind_some]
    by_cases hp2 : p < 17592186044416
    · rw [if_pos (by omega), e2']
      simp only [Option.bind_some]
      congr 1
      rw [Bool.eq_iff_iff]
      simp [MayP, hp2]
      omega
    · rw [if_neg (by omega)]
      simp [MayP, hp2]
  · rw [if_neg (by simp; omega)]
    congr 1
    rw [Bool.eq_iff_iff]
    simp [MayP, h8]
theorem put_f (m a p : Nat) (hm : m < 18446744073709551616) (ha : a < 18446744073709551616) (hp : p < 18446744073709551616) :
    satp_Put.f (m : Int) (a : Int) (p : Int) = if MayP m a p then some (((p + 17592186044416 * a + 1152921504606846976 * m : Nat) : Int), 0) else some (0, 1) := by
  unfold satp_Put.f
  rw [may_f m a p hm ha hp]
  simp only [Option.bind_some]
  by_cases h : MayP m a p
  · rw [if_pos (by simpa using h), if_pos h]
    have hh : a < 65536 ∧ p < 17592186044416 ∧ m < 16 := by unfold MayP at h; omega
    have e1 := set_f p 44 16 a hp (by omega) (by omega)
    rw [setN_add p 44 16 a (by omega) (by omega) (by omega)] at e1
    have e2 := set_f (p + 2 ^ 44 * a) 60 4 m (by omega) (by omega) (by omega)
    rw [setN_add _ 60 4 m (by omega) (by omega) (by omega)] at e2
    have e1' : bits_Set.f (p : Int) 44 16 (a : Int) = some ((p + 2 ^ 44 * a : Nat) : Int) := e1
    have e2' : bits_Set.f ((p + 2 ^ 44 * a : Nat) : Int) 60 4 (m : Int) = some ((p + 2 ^ 44 * a + 2 ^ 60 * m : Nat) : Int) := e2
    rw [e1']
    simp only [Option.bind_some]
    rw [e2']
    rfl
  · rw [if_neg (by simpa using h), if_neg h]
theorem sget_f (w : Nat) (hw : w < 18446744073709551616) :
    satp_Get.f (w : Int) = if MayP (w / 1152921504606846976) (w / 17592186044416 % 65536) (w % 17592186044416)
      then some (((w / 1152921504606846976 : Nat) : Int), ((w / 17592186044416 % 65536 : Nat) : Int), ((w % 17592186044416 : Nat) : Int), 0) else some (0, 0, 0, 1) := by
  unfold satp_Get.f
  have e1 := get_f w 0 44 hw (by omega) (by omega)
  have e2 := get_f w 44 16 hw (by omega) (by omega)
  have e3 := get_f w 60 4 hw (by omega) (by omega)
  rw [g0] at e1
  rw [g44] at e2
  rw [g60, show w / 1152921504606846976 % 16 = w / 1152921504606846976 by omega] at e3
  have e1' : bits_Get.f (w : Int) 0 44 = some ((w % 17592186044416 : Nat) : Int) := e1
  have e2' : bits_Get.f (w : Int) 44 16 = some ((w / 17592186044416 % 65536 : Nat) : Int) := e2
  have e3' : bits_Get.f (w : Int) 60 4 = some ((w / 1152921504606846976 : Nat) : Int) := e3
  rw [e3', e2', e1']
  simp only [Option.bind_some]
  rw [may_f _ _ _ (by omega) (by omega) (by omega)]
  simp only [Option.bind_some]
  by_cases h : MayP (w / 1152921504606846976) (w / 17592186044416 % 65536) (w % 17592186044416)
  · rw [if_pos (by simpa using h), if_pos h]
  · rw [if_neg (by simpa using h), if_neg h]
theorem awake_f : atlaslaw07_awake.f = some true := by
  unfold atlaslaw07_awake.f
  have p1 : satp_Put.f 8 1 2 = some (9223389629040820226, 0) := (put_f 8 1 2 (by decide) (by decide) (by decide)).trans (by decide)
  have p2 : satp_Put.f 9 0 0 = some (0, 1) := (put_f 9 0 0 (by decide) (by decide) (by decide)).trans (by decide)
  have g1 : satp_Get.f 9223389629040820226 = some (8, 1, 2, 0) := (sget_f 9223389629040820226 (by decide)).trans (by decide)
  have g2 : satp_Get.f 1 = some (0, 0, 0, 1) := (sget_f 1 (by decide)).trans (by decide)
  have m1 : satp_May.f 0 0 0 = some true := (may_f 0 0 0 (by decide) (by decide) (by decide)).trans (by decide)
  have m2 : satp_May.f 0 0 1 = some false := (may_f 0 0 1 (by decide) (by decide) (by decide)).trans (by decide)
  rw [p1]
  simp only [Option.bind_some]
  rw [g1, g2, p2]
  simp only [Option.bind_some, satp_On.f]
  rw [m1, m2]
  rfl
end Go.Proofs.Ytopdfddoadcjoaa.PSatpWords
