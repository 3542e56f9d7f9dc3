/- PoolNews, the plain law: of whatever numbers a new pool is the reference's, or none. -/
import Derived.Test.YtojklokbdmelhaaDoorSPoolNewsR
import Derived.Test.YtojklokbdmelhaaDoorSPoolNewsx4
set_option linter.unusedVariables false
set_option linter.unusedSimpArgs false
namespace Go.Proofs.YtojklokbdmelhaaDoor.SPoolNews
open Go.RowKit Go.Proofs.YtojklokbdmelhaaDoorW.PrintWords Go.Proofs.YtojklokbdmelhaaDoor.Bits Go.Proofs.YtojklokbdmelhaaDoor.Pop
theorem law (b : Nat) (m : Int) (hb : b < 18446744073709551616) : atlaslaw04_PoolNews.f 200 (b : Int) m = some true := by
  unfold atlaslaw04_PoolNews.f atlaslaw04_awake.f
  obtain ⟨r, hr, hi⟩ := rright_f b m 0 (by decide) 200 (by omega)
  rw [Option.bind_some, if_pos rfl, show atlasref04_Right.f 200 (b : Int) m 0 = some r from hr]
  by_cases h : PR b m 0
  · obtain ⟨h0, h1, h2, _⟩ := id h
    obtain ⟨n, rfl⟩ := Int.eq_ofNat_of_zero_le h0
    obtain rfl := hi.2 h
    rw [new_yes b n (by omega) h2, Option.bind_some, Option.bind_some, if_pos rfl, if_pos rfl, rnew_f b n 200 (by omega) (by omega), Option.bind_some, if_pos (by simp), free_f _ _ _ (getN_lt _ _ _ (by decide)), Option.bind_some,
      pc_all n (by omega) 64 _ (all_set n (by omega)), Nat.min_eq_left (by omega)]
    simp
  · have : r = false := by cases r with
      | false => rfl
      | true => exact absurd (hi.1 rfl) h
    subst this
    rw [new_no b m h, Option.bind_some, Option.bind_some, if_neg (by decide), if_pos rfl]
    rfl
end Go.Proofs.YtojklokbdmelhaaDoor.SPoolNews
