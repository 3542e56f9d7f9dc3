/- What the reference's Is, Free, Take, Give of layer 4 answer of a right pool. -/
import Derived.Test.YtojklokbdmelhaaDoorRPoolI
import Derived.Test.YtojklokbdmelhaaDoorPurePoolAll
set_option linter.unusedVariables false
set_option linter.unusedSimpArgs false
namespace Go.Proofs.YtojklokbdmelhaaDoor.SPoolAll
open Go.RowKit Go.Proofs.YtojklokbdmelhaaDoorW.PrintWords Go.Proofs.YtojklokbdmelhaaDoor.Bits Go.Proofs.YtojklokbdmelhaaDoor.Pop

theorem ris_l0 (b n f u : Nat) (hb : b ≤ 268435456) (hn : n ≤ 64) (hf : f < 18446744073709551616) (d : Nat) : ∀ k j : Nat, j ≤ n → n - j = d → d + 70 < k → (∀ i, i < j → b + i ≠ u) →
    atlasref04_Is.l0 k (u : Int) (j : Int) (b : Int) (n : Int) (f : Int) = some (decide (b ≤ u ∧ u - b < n ∧ f.testBit (u - b) = false)) := by
  induction d with
  | zero =>
    intro k j h1 h2 hk hj
    obtain ⟨k, rfl⟩ : ∃ q, k = q + 1 := ⟨k - 1, by omega⟩
    rw [atlasref04_Is.l0, if_neg (by omega), decide_eq_false]
    rintro ⟨c1, c2, _⟩
    exact hj (u - b) (by omega) (by omega)
  | succ d ih =>
    intro k j h1 h2 hk hj
    obtain ⟨k, rfl⟩ : ∃ q, k = q + 1 := ⟨k - 1, by omega⟩
    rw [atlasref04_Is.l0, if_pos (by omega), wrap_u j (by omega), show ((b : Int) + (j : Int)) = ((b + j : Nat) : Int) by omega, wrap_u (b + j) (by omega)]
    by_cases e : b + j = u
    · rw [if_pos (by omega), bit_f f j k hf (by omega) (by omega), Option.bind_some]
      congr 1
      rw [show u - b = j by omega]
      cases h : f.testBit j
      · rw [decide_eq_true ⟨by omega, by omega, rfl⟩]; rfl
      · rw [decide_eq_false (by rintro ⟨_, _, h⟩; cases h)]; rfl
    · rw [if_neg (by omega), w64_small _ (by omega) (by omega)]
      refine ih k (j + 1) (by omega) (by omega) (by omega) fun i hi => ?_
      rcases Nat.lt_or_ge i j with h | h
      · exact hj i h
      · rw [show i = j by omega]; exact e
theorem ris_f (b n f u k : Nat) (hb : b ≤ 268435456) (hn : n ≤ 64) (hf : f < 18446744073709551616) (hk : 140 < k) :
    atlasref04_Is.f k (b : Int) (n : Int) (f : Int) (u : Int) = some (decide (b ≤ u ∧ u - b < n ∧ getN f (u - b) 1 = 0)) := by
  unfold atlasref04_Is.f
  rw [show (0 : Int) = ((0 : Nat) : Int) from rfl, ris_l0 b n f u hb hn hf n k 0 (by omega) (by omega) (by omega) (fun i h => by omega)]
  congr 1
  by_cases h : b ≤ u ∧ u - b < n
  · rw [get1 f (u - b) hf (by omega)]
    cases f.testBit (u - b) <;> simp [h]
  · rw [decide_eq_false (fun x => h ⟨x.1, x.2.1⟩), decide_eq_false (fun x => h ⟨x.1, x.2.1⟩)]
theorem pc_step (j f : Nat) : pc (j + 1) f = pc j f + (f.testBit j).toNat := by
  rw [pc_sum, pc_sum, List.range_succ, List.map_append, List.sum_append]; simp
theorem rfree_l0 (b m : Int) (f : Nat) (hf : f < 18446744073709551616) (d : Nat) : ∀ k j : Nat, j ≤ 64 → 64 - j = d → d + 70 < k →
    atlasref04_Free.l0 k ((pc j f : Nat) : Int) (j : Int) b m (f : Int) = some ((pc 64 f : Nat) : Int) := by
  induction d with
  | zero =>
    intro k j h1 h2 hk
    obtain ⟨k, rfl⟩ : ∃ q, k = q + 1 := ⟨k - 1, by omega⟩
    rw [atlasref04_Free.l0, if_neg (by omega), show j = 64 by omega]
  | succ d ih =>
    intro k j h1 h2 hk
    obtain ⟨k, rfl⟩ : ∃ q, k = q + 1 := ⟨k - 1, by omega⟩
    have hle := pc_le j f
    have hs := pc_step j f
    have := ih k (j + 1) (by omega) (by omega) (by omega)
    rw [atlasref04_Free.l0, if_pos (by omega), bit_f f j k hf (by omega) (by omega), Option.bind_some, w64_small (j + 1 : Int) (by omega) (by omega)]
    cases h : f.testBit j
    · rw [if_neg (by decide)]
      rw [h] at hs
      rw [show pc (j + 1) f = pc j f from hs] at this
      exact this
    · rw [if_pos rfl, w64_small _ (by omega) (by omega)]
      rw [h] at hs
      rw [show pc (j + 1) f = pc j f + 1 from hs] at this
      exact this
theorem rfree_f (b m : Int) (f k : Nat) (hf : f < 18446744073709551616) (hk : 140 < k) : atlasref04_Free.f k b m (f : Int) = some ((pc 64 f : Nat) : Int) := by
  unfold atlasref04_Free.f
  have := rfree_l0 b m f hf 64 k 0 (by omega) (by omega) (by omega)
  have h0 : pc 0 f = 0 := by have := pc_le 0 f; omega
  rw [h0] at this
  exact this
theorem rtake_calls (b n f : Nat) (hb : b ≤ 268435456) (hn : n ≤ 64) (hf : f < 18446744073709551616) (hlow : ∀ j, n ≤ j → f.testBit j = false) (w : World) :
    Calls Tryd.prog 12 #[.agg #[.int .u64 b, .int .i64 (n : Int), .int .u64 f]] w
      (if f = 0 then Takes w b n f 0 8 else Takes w b n ((setN f (ctz f) 1 0 : Nat) : Int) ((b + ctz f : Nat) : Int) 0) := by
  have bits : ∀ i : Nat, i < 64 → ∀ W, Calls Tryd.prog 22 #[.int .u64 f, .int .i64 (i : Int)] W fun e w' => e = .returned (.bool (f.testBit i)) ∧ Drawn0 W w' :=
    fun i hi W => atlasref01_Bit.calls 200 f i _ W (bit_f f i 200 hf hi (by omega))
  by_cases h0 : f = 0
  · rw [if_pos h0]
    refine rtake_no b f n w hn fun i hi W => ?_
    have := bits i (by omega) W
    rw [h0, Nat.zero_testBit] at this
    rw [h0]
    exact this
  · rw [if_neg h0]
    have hc := ctz_pos f hf h0
    rcases ctz_cases f with ⟨e, _⟩ | ⟨_, hbit, hl⟩
    · omega
    have hcn : ctz f < n := by
      rcases Nat.lt_or_ge (ctz f) n with h | h
      · exact h
      · rw [hlow _ h] at hbit; cases hbit
    refine rtake_yes b f _ _ n (ctz f) w hn hcn (fun i hi W => ?_) (fun W => ?_) (fun W => ?_) ?_ (wrap_u _ (by omega))
    · have := bits i (by omega) W
      rw [hl i hi] at this
      exact this
    · have := bits (ctz f) hc W
      rw [hbit] at this
      exact this
    · exact rset_calls f (ctz f) 1 0 W hf (by omega) (by omega) (by omega)
    · rw [show ((b : Int) + ((ctz f : Nat) : Int)) = ((b + ctz f : Nat) : Int) by omega, wrap_u _ (by omega)]
theorem rgive_calls (b n f u : Nat) (hb : b ≤ 268435456) (hn : n ≤ 64) (hf : f < 18446744073709551616) (hu : u < 18446744073709551616) (w : World) :
    Calls Tryd.prog 14 #[.agg #[.int .u64 b, .int .i64 (n : Int), .int .u64 f], .int .u64 u] w
      (if b ≤ u ∧ u - b < n ∧ getN f (u - b) 1 = 0 then Gives w b n ((setN f (u - b) 1 1 : Nat) : Int) 0 else Gives w b n f 1) := by
  have his := fun W => atlasref04_Is.calls 200 b n f u _ W (ris_f b n f u 200 hb hn hf (by omega))
  by_cases h : b ≤ u ∧ u - b < n ∧ getN f (u - b) 1 = 0
  · rw [if_pos h]
    rw [decide_eq_true h] at his
    refine rgive_ok b n f u ((u - b : Nat) : Int) _ w his ?_ (by omega) (by omega) fun W => ?_
    · rw [show ((u : Int) - (b : Int)) = ((u - b : Nat) : Int) by omega, wrap_u _ (by omega)]
    · exact rset_calls f (u - b) 1 1 W hf (by omega) (by omega) (by omega)
  · rw [if_neg h]
    rw [decide_eq_false h] at his
    exact rgive_no b n f u w his
end Go.Proofs.YtojklokbdmelhaaDoor.SPoolAll
