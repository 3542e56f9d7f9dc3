/- Of whatever register and word the program says what the reference says: the plain law, over natural numbers. -/
import Derived.Test.YtopdfddoadcjoaaPSatpWordsx4
import Derived.Test.YtopdfddoadcjoaaPSatpWordsC
set_option linter.unusedVariables false
set_option linter.unusedSimpArgs false
namespace Go.Proofs.Ytopdfddoadcjoaa.Pure
open Go.RowKit Go.Proofs.Ytopdfddoadcjoaa.PSatpWords Go.Proofs.YtopdfddoadcjoaaW.PrintWords Go.Proofs.YtopdfddoadcjoaaW.PrintLast Go.Proofs.Ytopdfddoadcjoaa.Bits

theorem nat_beq (a b : Nat) : ((a : Int) == (b : Int)) = decide (a = b) := by
  rw [Bool.eq_iff_iff, beq_iff_eq, decide_eq_true_eq]; omega
theorem tm (x d : Nat) : Int.tmod (x : Int) (d : Int) = ((x % d : Nat) : Int) := by
  rw [Int.tmod_eq_emod_of_nonneg (by omega)]; simp
theorem td (x d : Nat) : Int.tdiv (x : Int) (d : Int) = ((x / d : Nat) : Int) := by
  rw [Int.tdiv_eq_ediv_of_nonneg (by omega)]; simp
theorem rmay_f (m a p : Nat) : atlasref07_May.f (m : Int) (a : Int) (p : Int) = some (decide (MayP m a p)) := by
  unfold atlasref07_May.f
  by_cases h0 : m = 0
  · rw [if_pos (by omega)]
    by_cases ha : a = 0
    · rw [if_pos (by omega)]
      have := nat_beq p 0
      rw [show ((p : Int) == 0) = decide (p = 0) from this]
      congr 1
      rw [Bool.eq_iff_iff]
      simp only [decide_eq_true_eq]
      unfold MayP; omega
    · rw [if_neg (by omega), decide_eq_false (by unfold MayP; omega)]
  · rw [if_neg (by omega)]
    by_cases h8 : m = 8
    · rw [if_pos (by omega)]
      by_cases ha : a < 65536
      · rw [if_pos (by omega)]
        refine congrArg some ?_
        rw [Bool.eq_iff_iff, decide_eq_true_eq, decide_eq_true_eq]
        unfold MayP; omega
      · rw [if_neg (by omega), decide_eq_false (by unfold MayP; omega)]
    · rw [if_neg (by omega), decide_eq_false (by unfold MayP; omega)]
theorem rget_f (w : Nat) (hw : w < 18446744073709551616) :
    atlasref07_Get.f (w : Int) = if MayP (w / 1152921504606846976) (w / 17592186044416 % 65536) (w % 17592186044416)
      then some (((w / 1152921504606846976 : Nat) : Int), ((w / 17592186044416 % 65536 : Nat) : Int), ((w % 17592186044416 : Nat) : Int), 0) else some (0, 0, 0, 1) := by
  unfold atlasref07_Get.f
  have e1 : Int.tdiv (w : Int) 1152921504606846976 = ((w / 1152921504606846976 : Nat) : Int) := td w 1152921504606846976
  have e2 : Int.tdiv (w : Int) 17592186044416 = ((w / 17592186044416 : Nat) : Int) := td w 17592186044416
  have e3 : Int.tmod (w : Int) 17592186044416 = ((w % 17592186044416 : Nat) : Int) := tm w 17592186044416
  have e4 : Int.tmod ((w / 17592186044416 : Nat) : Int) 65536 = ((w / 17592186044416 % 65536 : Nat) : Int) := tm _ 65536
  rw [e1, e2, e3, wrap_u _ (by omega), wrap_u _ (by omega), e4, rmay_f, Option.bind_some]
  by_cases h : MayP (w / 1152921504606846976) (w / 17592186044416 % 65536) (w % 17592186044416)
  · rw [if_pos h, if_pos (decide_eq_true h)]
  · rw [if_neg h, if_neg (by rw [decide_eq_false h]; decide)]
theorem rput_f (m a p : Nat) (h : MayP m a p) : atlasref07_Put.f (m : Int) (a : Int) (p : Int) = some ((p + 17592186044416 * a + 1152921504606846976 * m : Nat) : Int) := by
  have hh : a < 65536 ∧ p < 17592186044416 ∧ m < 16 := by unfold MayP at h; omega
  unfold atlasref07_Put.f
  rw [show ((a : Int) * 17592186044416) = ((17592186044416 * a : Nat) : Int) by omega, show ((m : Int) * 1152921504606846976) = ((1152921504606846976 * m : Nat) : Int) by omega,
    wrap_u _ (by omega), wrap_u _ (by omega), show ((p : Int) + ((17592186044416 * a : Nat) : Int)) = ((p + 17592186044416 * a : Nat) : Int) by omega, wrap_u _ (by omega),
    show (((p + 17592186044416 * a : Nat) : Int) + ((1152921504606846976 * m : Nat) : Int)) = ((p + 17592186044416 * a + 1152921504606846976 * m : Nat) : Int) by omega, wrap_u _ (by omega)]

theorem SatpWords (m a p w : Nat) (hm : m < 18446744073709551616) (ha : a < 18446744073709551616) (hp : p < 18446744073709551616) (hw : w < 18446744073709551616) :
    atlaslaw07_SatpWords.f 1 (m : Int) (a : Int) (p : Int) (w : Int) = some true := by
  unfold atlaslaw07_SatpWords.f
  rw [awake_f, Option.bind_some, if_pos rfl, put_f m a p hm ha hp, sget_f w hw, rget_f w hw, may_f m a p hm ha hp, rmay_f]
  generalize hX : (if MayP (w / 1152921504606846976) (w / 17592186044416 % 65536) (w % 17592186044416)
      then some (((w / 1152921504606846976 : Nat) : Int), ((w / 17592186044416 % 65536 : Nat) : Int), ((w % 17592186044416 : Nat) : Int), (0 : Int)) else some (0, 0, 0, 1)) = X
  obtain ⟨x, rfl⟩ : ∃ x, X = some x := by subst hX; split <;> exact ⟨_, rfl⟩
  clear hX
  obtain ⟨x1, x2, x3, x4⟩ := x
  by_cases h : MayP m a p
  · rw [if_pos h]
    rw [Option.bind_some, Option.bind_some, Option.bind_some, Option.bind_some, Option.bind_some, if_neg (by simp)]
    unfold satp_On.f
    rw [Option.bind_some, if_neg (by simp), if_neg (by simp), show (x4 != x4) = false by simp]
    rw [atlaslaw07_SatpWords.j0, if_neg (show ¬ (false = true) by decide), rmay_f, Option.bind_some, if_pos (decide_eq_true h), if_pos rfl, rput_f m a p h, Option.bind_some, nat_beq, decide_eq_true rfl]
  · rw [if_neg h]
    rw [Option.bind_some, Option.bind_some, Option.bind_some, Option.bind_some, Option.bind_some, if_neg (by simp)]
    unfold satp_On.f
    rw [Option.bind_some, if_neg (by simp), if_neg (by simp), show (x4 != x4) = false by simp]
    rw [atlaslaw07_SatpWords.j0, if_neg (show ¬ (false = true) by decide), rmay_f, Option.bind_some, if_neg (by rw [decide_eq_false h]; decide), if_pos rfl]
    rfl
end Go.Proofs.Ytopdfddoadcjoaa.Pure
