/- PoolDoes: what each call answers, and the walk at each way. -/
import Derived.Test.YtojklokbdmelhaaDoorWPoolDoes
import Derived.Test.YtojklokbdmelhaaDoorRPoolP
set_option linter.unusedVariables false
set_option linter.unusedSimpArgs false
namespace Go.Proofs.YtojklokbdmelhaaDoor.SPoolDoes
open Go.RowKit Go.Proofs.YtojklokbdmelhaaDoorW.PrintWords Go.Proofs.YtojklokbdmelhaaDoor.Bits Go.Proofs.YtojklokbdmelhaaDoor.Pop Go.Proofs.YtojklokbdmelhaaDoor.SPoolAll

theorem law (b u f : Nat) (m : Int) (hb : b < 18446744073709551616) (hu : u < 18446744073709551616) (hf : f < 18446744073709551616) (w : World) (hl : Ld w) :
    Calls Tryd.prog 3 #[.agg #[.int .u64 b, .int .i64 m, .int .u64 f], .int .u64 u] w fun e w' => e = .returned (.bool true) ∧ Below w.heap.size w w' := by
  obtain ⟨r, hr, hi⟩ := rright_f b m f hf 400 (by omega)
  have hS : Says 10 #[.agg #[.int .u64 b, .int .i64 m, .int .u64 f]] (.bool r) := fun W _ => atlasref04_Right.calls 400 b m f r W hr
  cases r with
  | false =>
    have hR : Says 9 #[.agg #[.int .u64 b, .int .i64 m, .int .u64 f]] (.bool false) := fun W _ => pool_Right.calls b m f false W (right_no b m f hf fun h => by simpa using hi.2 h)
    exact walk_no b m f u w hl hR hS
  | true =>
    have hP := hi.1 rfl
    have hR : Says 9 #[.agg #[.int .u64 b, .int .i64 m, .int .u64 f]] (.bool true) := fun W _ => pool_Right.calls b m f true W (right_yes b m f hf hP)
    obtain ⟨h0, h1, hb2, hlow⟩ := hP
    obtain ⟨n, rfl⟩ := Int.eq_ofNat_of_zero_le h0
    have hn : n ≤ 64 := by omega
    have hlow' : ∀ j : Nat, n ≤ j → f.testBit j = false := fun j hj => hlow j (by omega)
    have hM : Says 15 #[.agg #[.int .u64 b, .int .i64 n, .int .u64 f]] (.int .i64 (pc 64 f : Nat)) := fun W _ => pool_Free.calls _ _ _ _ W (free_f b n f hf)
    have hN : Says 16 #[.agg #[.int .u64 b, .int .i64 n, .int .u64 f]] (.int .i64 (pc 64 f : Nat)) := fun W _ => atlasref04_Free.calls 400 _ _ _ _ W (rfree_f b n f 400 hf (by omega))
    have hI : Says 17 #[.agg #[.int .u64 b, .int .i64 n, .int .u64 f], .int .u64 u] (.bool (decide (b ≤ u ∧ u - b < n ∧ getN f (u - b) 1 = 0))) := fun W _ => pool_Is.calls _ _ _ _ _ W (is_f b n f u hb2 hn hf hu)
    have hJ : Says 18 #[.agg #[.int .u64 b, .int .i64 n, .int .u64 f], .int .u64 u] (.bool (decide (b ≤ u ∧ u - b < n ∧ getN f (u - b) 1 = 0))) := fun W _ => atlasref04_Is.calls 200 _ _ _ _ _ W (ris_f b n f u 200 hb2 hn hf (by omega))
    have hT : ∃ f1 x er : Int, Says 11 #[.agg #[.int .u64 b, .int .i64 n, .int .u64 f]] (.tuple #[.agg #[.int .u64 b, .int .i64 n, .int .u64 f1], .int .u64 x, .int .i64 er]) ∧
        Says 12 #[.agg #[.int .u64 b, .int .i64 n, .int .u64 f]] (.tuple #[.agg #[.int .u64 b, .int .i64 n, .int .u64 f1], .int .u64 x, .int .i64 er]) := by
      have R := fun W => rtake_calls b n f hb2 hn hf hlow' W
      by_cases c : f = 0
      · refine ⟨_, _, _, fun W hW => pool_Take.calls b n f b n f 0 8 W hW ?_, fun W _ => ?_⟩
        · unfold pool_Take.f
          rw [if_pos ⟨by omega, by omega, by omega, by omega⟩, if_pos (by omega)]
        · have := R W
          rw [if_pos c] at this
          exact this
      · refine ⟨_, _, _, fun W hW => pool_Take.calls _ _ _ _ _ _ _ _ W hW (take_f b n f hb2 hf c), fun W _ => ?_⟩
        have := R W
        rw [if_neg c] at this
        exact this
    have hG : ∃ f2 g : Int, Says 13 #[.agg #[.int .u64 b, .int .i64 n, .int .u64 f], .int .u64 u] (.tuple #[.agg #[.int .u64 b, .int .i64 n, .int .u64 f2], .int .i64 g]) ∧
        Says 14 #[.agg #[.int .u64 b, .int .i64 n, .int .u64 f], .int .u64 u] (.tuple #[.agg #[.int .u64 b, .int .i64 n, .int .u64 f2], .int .i64 g]) := by
      have R := fun W => rgive_calls b n f u hb2 hn hf hu W
      by_cases c : b ≤ u ∧ u - b < n ∧ getN f (u - b) 1 = 0
      · refine ⟨_, _, fun W _ => pool_Give.calls b n f u b n ((setN f (u - b) 1 1 : Nat) : Int) 0 W ?_, fun W _ => ?_⟩
        · unfold pool_Give.f
          rw [if_pos ⟨by omega, by omega, by omega, by omega, by omega, by omega, by omega, by omega⟩, show (((u : Int) - (b : Int)).toNat) = u - b by omega, Int.toNat_natCast, if_pos ⟨by omega, by omega, c.2.2⟩]
        · have := R W
          rw [if_pos c] at this
          exact this
      · refine ⟨_, _, fun W _ => pool_Give.calls b n f u b n f 1 W ?_, fun W _ => ?_⟩
        · unfold pool_Give.f
          rw [if_pos ⟨by omega, by omega, by omega, by omega, by omega, by omega, by omega, by omega⟩, show (((u : Int) - (b : Int)).toNat) = u - b by omega, Int.toNat_natCast, if_neg (fun x => c ⟨by omega, by omega, x.2.2⟩)]
        · have := R W
          rw [if_neg c] at this
          exact this
    obtain ⟨f1, x, er, hT1, hT2⟩ := hT
    obtain ⟨f2, g, hG1, hG2⟩ := hG
    exact walk_yes b n f u f1 x er f2 g _ _ w hl hR hS hT1 hT2 hG1 hG2 hM hN hI hJ
theorem calls (a0 b0 c0 a1 : Int) (w : World) (hl : Ld w) (h0 : (Lit.int .u64 a0).wf = true) (h2 : (Lit.int .u64 c0).wf = true) (h1 : (Lit.int .u64 a1).wf = true) :
    Calls Tryd.prog 3 #[.agg #[.int .u64 a0, .int .i64 b0, .int .u64 c0], .int .u64 a1] w fun e w' => e = .returned (.bool true) ∧ Below w.heap.size w w' := by
  obtain ⟨n, rfl, hn⟩ := u64_of a0 h0
  obtain ⟨f, rfl, hf⟩ := u64_of c0 h2
  obtain ⟨u, rfl, hu⟩ := u64_of a1 h1
  exact law n u f b0 hn hu hf w hl
end Go.Proofs.YtojklokbdmelhaaDoor.SPoolDoes
