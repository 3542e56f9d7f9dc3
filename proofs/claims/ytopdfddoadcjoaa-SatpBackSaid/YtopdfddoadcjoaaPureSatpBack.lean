/- What satp.Put puts is read as it was, what is read is put as it was, and unlike registers have unlike words: the plain law, over natural numbers. -/
import Derived.Test.YtopdfddoadcjoaaPSatpBackx3
import Derived.Test.YtopdfddoadcjoaaPSatpBackC
set_option linter.unusedVariables false
set_option linter.unusedSimpArgs false
namespace Go.Proofs.Ytopdfddoadcjoaa.Pure
open Go.RowKit Go.Proofs.Ytopdfddoadcjoaa.PSatpBack Go.Proofs.YtopdfddoadcjoaaW.PrintWords Go.Proofs.YtopdfddoadcjoaaW.PrintLast Go.Proofs.Ytopdfddoadcjoaa.Bits

theorem nat_beq (a b : Nat) : ((a : Int) == (b : Int)) = decide (a = b) := by
  rw [Bool.eq_iff_iff, beq_iff_eq, decide_eq_true_eq]; omega
theorem bne_of {a b : Bool} (h : a = b) : (a != b) = false := by subst h; simp

/-- What is put is read as it was. -/
theorem get_put (m a p : Nat) (h : MayP m a p) : satp_Get.f ((p + 17592186044416 * a + 1152921504606846976 * m : Nat) : Int) = some ((m : Int), (a : Int), (p : Int), 0) := by
  have hh : a < 65536 ∧ p < 17592186044416 ∧ m < 16 := by unfold MayP at h; omega
  rw [sget_f _ (by omega), show (p + 17592186044416 * a + 1152921504606846976 * m) / 1152921504606846976 = m by omega,
    show (p + 17592186044416 * a + 1152921504606846976 * m) / 17592186044416 % 65536 = a by omega, show (p + 17592186044416 * a + 1152921504606846976 * m) % 17592186044416 = p by omega, if_pos h]
theorem same_word (m a p m2 a2 p2 : Nat) (h : MayP m a p) (h2 : MayP m2 a2 p2) :
    (p + 17592186044416 * a + 1152921504606846976 * m = p2 + 17592186044416 * a2 + 1152921504606846976 * m2) ↔ (m = m2 ∧ a = a2 ∧ p = p2) := by
  have hh : a < 65536 ∧ p < 17592186044416 ∧ m < 16 := by unfold MayP at h; omega
  have hh2 : a2 < 65536 ∧ p2 < 17592186044416 ∧ m2 < 16 := by unfold MayP at h2; omega
  omega
/-- What is read is put as it was: the law's last lines. -/
theorem tail (w : Nat) (hw : w < 18446744073709551616) :
    ((satp_Get.f (w : Int)).bind fun bt149 => ((satp_Put.f bt149.1 bt149.2.1 bt149.2.2.1).bind fun bt154 => (if bt149.2.2.2 = 0 then (if bt154.2 = 0 then (some (bt154.1 == (w : Int))) else (some false)) else (if (bt149.1 == 0 && (bt149.2.1 == 0 && (bt149.2.2.1 == 0))) = true then (some true) else (some false))))) = some true := by
  rw [sget_f w hw]
  by_cases h : MayP (w / 1152921504606846976) (w / 17592186044416 % 65536) (w % 17592186044416)
  · rw [if_pos h, Option.bind_some]
    have hp := put_f (w / 1152921504606846976) (w / 17592186044416 % 65536) (w % 17592186044416) (by omega) (by omega) (by omega)
    rw [if_pos h] at hp
    have he : (w % 17592186044416 + 17592186044416 * (w / 17592186044416 % 65536) + 1152921504606846976 * (w / 1152921504606846976)) = w := by omega
    rw [he] at hp
    show (satp_Put.f ((w / 1152921504606846976 : Nat) : Int) ((w / 17592186044416 % 65536 : Nat) : Int) ((w % 17592186044416 : Nat) : Int)).bind _ = some true
    rw [hp, Option.bind_some, if_pos rfl, if_pos rfl, nat_beq, decide_eq_true rfl]
  · rw [if_neg h, Option.bind_some]
    have hp : satp_Put.f 0 0 0 = some (0, 0) := (put_f 0 0 0 (by decide) (by decide) (by decide)).trans (by decide)
    show (satp_Put.f 0 0 0).bind _ = some true
    rw [hp, Option.bind_some, if_neg (by decide), if_pos (by decide)]

theorem j0_f (k w : Nat) (hw : w < 18446744073709551616) : atlaslaw07_SatpBack.j0 (k + 1) (w : Int) false = some true := by
  rw [atlaslaw07_SatpBack.j0, if_neg (show ¬ (false = true) by decide)]
  exact tail w hw

theorem SatpBack (m a p m2 a2 p2 w : Nat) (hm : m < 18446744073709551616) (ha : a < 18446744073709551616) (hp : p < 18446744073709551616)
    (hm2 : m2 < 18446744073709551616) (ha2 : a2 < 18446744073709551616) (hp2 : p2 < 18446744073709551616) (hw : w < 18446744073709551616) :
    atlaslaw07_SatpBack.f 1 (m : Int) (a : Int) (p : Int) (m2 : Int) (a2 : Int) (p2 : Int) (w : Int) = some true := by
  unfold atlaslaw07_SatpBack.f
  rw [awake_f, Option.bind_some, if_pos rfl, put_f m a p hm ha hp, put_f m2 a2 p2 hm2 ha2 hp2]
  by_cases h : MayP m a p
  · rw [if_pos h, Option.bind_some]
    by_cases h2 : MayP m2 a2 p2
    · rw [if_pos h2, Option.bind_some, if_pos rfl]
      show (satp_Get.f ((p + 17592186044416 * a + 1152921504606846976 * m : Nat) : Int)).bind _ = some true
      rw [get_put m a p h, Option.bind_some, if_pos rfl]
      show (if (!((m : Int) == (m : Int)) || (!((a : Int) == (a : Int)) || (!((p : Int) == (p : Int))))) = true then _ else _) = some true
      rw [if_neg (by simp)]
      show (if (0 : Int) = 0 then _ else _) = some true
      rw [if_pos rfl]
      show atlaslaw07_SatpBack.j0 1 (w : Int) ((((p + 17592186044416 * a + 1152921504606846976 * m : Nat) : Int) == ((p2 + 17592186044416 * a2 + 1152921504606846976 * m2 : Nat) : Int)) != ((m : Int) == (m2 : Int) && ((a : Int) == (a2 : Int) && ((p : Int) == (p2 : Int))))) = some true
      rw [nat_beq, nat_beq, nat_beq, nat_beq, bne_of]
      · exact j0_f 0 w hw
      · rw [Bool.eq_iff_iff]
        simp only [decide_eq_true_eq, Bool.and_eq_true]
        exact same_word m a p m2 a2 p2 h h2
    · rw [if_neg h2, Option.bind_some, if_pos rfl]
      show (satp_Get.f ((p + 17592186044416 * a + 1152921504606846976 * m : Nat) : Int)).bind _ = some true
      rw [get_put m a p h, Option.bind_some, if_pos rfl]
      show (if (!((m : Int) == (m : Int)) || (!((a : Int) == (a : Int)) || (!((p : Int) == (p : Int))))) = true then _ else _) = some true
      rw [if_neg (by simp)]
      show (if (1 : Int) = 0 then _ else _) = some true
      rw [if_neg (by decide)]
      exact j0_f 0 w hw
  · rw [if_neg h, Option.bind_some]
    by_cases h2 : MayP m2 a2 p2
    · rw [if_pos h2, Option.bind_some, if_neg (by decide)]
      exact tail w hw
    · rw [if_neg h2, Option.bind_some, if_neg (by decide)]
      exact tail w hw
end Go.Proofs.Ytopdfddoadcjoaa.Pure
