/- PoolBack: what each call answers, and the walk at each way. -/
import Derived.Test.YtojklokbdmelhaaDoorWPoolBack
import Derived.Test.YtojklokbdmelhaaDoorPurePoolAll
set_option linter.unusedVariables false
set_option linter.unusedSimpArgs false
namespace Go.Proofs.YtojklokbdmelhaaDoor.SPoolBack
open Go.RowKit Go.Proofs.YtojklokbdmelhaaDoorW.PrintWords Go.Proofs.YtojklokbdmelhaaDoor.Bits Go.Proofs.YtojklokbdmelhaaDoor.Pop Go.Proofs.YtojklokbdmelhaaDoor.SPoolAll

theorem Says.of {f : Nat} {xs : Array Value} {r : Value} (h : ∀ W, Ld W → Calls Tryd.prog f xs W fun e w' => e = .returned r ∧ Below W.heap.size W w') : Says f xs r := h
theorem ctz_low (g i : Nat) (hi : i < 64) (h : g.testBit i = true) : ctz g ≤ i := by
  rcases ctz_cases g with ⟨_, h2⟩ | ⟨_, _, h3⟩
  · rw [h2 i hi] at h; cases h
  · rcases Nat.lt_or_ge i (ctz g) with h4 | h4
    · rw [h3 i h4] at h; cases h
    · exact h4
theorem back (f i : Nat) (hf : f < 18446744073709551616) (hi : i < 64) (c : Bool) (h : f.testBit i = c) (b : Nat) (hb : b < 2) : setN (setN f i 1 b) i 1 c.toNat = f := by
  refine eq_of_bits fun j => ?_
  have hc : c.toNat < 2 := by cases c <;> decide
  rw [bit_set _ i _ j (setN_lt _ _ _ _) hi hc]
  by_cases hj : j = i
  · rw [if_pos hj, hj, h]; cases c <;> rfl
  · rw [if_neg hj, bit_set _ i _ j hf hi hb, if_neg hj]
theorem law (b u f : Nat) (m : Int) (hb : b < 18446744073709551616) (hu : u < 18446744073709551616) (hf : f < 18446744073709551616) (w : World) (hl : Ld w) :
    Calls Tryd.prog 6 #[.agg #[.int .u64 b, .int .i64 m, .int .u64 f], .int .u64 u] w fun e w' => e = .returned (.bool true) ∧ Below w.heap.size w w' := by
  obtain ⟨r, hr, hi⟩ := rright_f b m f hf 400 (by omega)
  have hR : Says 10 #[.agg #[.int .u64 b, .int .i64 m, .int .u64 f]] (.bool r) := fun W _ => atlasref04_Right.calls 400 b m f r W hr
  cases r with
  | false => exact walk_no b m f u w hl hR
  | true =>
    obtain ⟨h0, h1, hb2, hlow⟩ := hi.1 rfl
    obtain ⟨n, rfl⟩ := Int.eq_ofNat_of_zero_le h0
    have hn : n ≤ 64 := by omega
    have hlow' : ∀ j : Nat, n ≤ j → f.testBit j = false := fun j hj => hlow j (by omega)
    -- giving
    have gives : (b ≤ u ∧ u - b < n ∧ getN f (u - b) 1 = 0) → ∀ i, i = u - b → i < 64 ∧ f.testBit i = false ∧
        Says 13 #[.agg #[.int .u64 b, .int .i64 n, .int .u64 f], .int .u64 u] (.tuple #[.agg #[.int .u64 b, .int .i64 n, .int .u64 (setN f i 1 1 : Nat)], .int .i64 0]) := by
      rintro ⟨g1, g2, g3⟩ i rfl
      have hi64 : u - b < 64 := by omega
      have ht : f.testBit (u - b) = false := by rw [get1 f (u - b) hf hi64] at g3; cases h : f.testBit (u - b) <;> simp_all
      refine ⟨hi64, ht, fun W _ => ?_⟩
      have g := give_f b n f (u - b) hb2 hn hf g2 ht
      rw [show b + (u - b) = u by omega] at g
      exact pool_Give.calls _ _ _ _ _ _ _ _ W g
    have keeps : ¬ (b ≤ u ∧ u - b < n ∧ getN f (u - b) 1 = 0) →
        Says 13 #[.agg #[.int .u64 b, .int .i64 n, .int .u64 f], .int .u64 u] (.tuple #[.agg #[.int .u64 b, .int .i64 n, .int .u64 f], .int .i64 1]) ∧ Says 17 #[.agg #[.int .u64 b, .int .i64 n, .int .u64 f], .int .u64 u] (.bool false) := by
      intro hc
      have his := is_f b n f u hb2 hn hf hu
      rw [decide_eq_false hc] at his
      refine ⟨fun W _ => pool_Give.calls _ _ _ _ _ _ _ _ W ?_, fun W _ => pool_Is.calls _ _ _ _ _ W his⟩
      unfold pool_Give.f
      rw [if_pos ⟨by omega, by omega, by omega, by omega, by omega, by omega, by omega, by omega⟩, if_neg]
      rintro ⟨c1, c2, c3⟩
      exact hc ⟨by omega, by omega, by rw [show (((u : Int) - (b : Int)).toNat) = u - b by omega, Int.toNat_natCast] at c3; exact c3⟩
    -- what is taken of a pool with a free frame
    have takes : ∀ g : Nat, g < 18446744073709551616 → g ≠ 0 → Says 11 #[.agg #[.int .u64 b, .int .i64 n, .int .u64 g]] (.tuple #[.agg #[.int .u64 b, .int .i64 n, .int .u64 (setN g (ctz g) 1 0 : Nat)], .int .u64 (b + ctz g : Nat), .int .i64 0]) :=
      fun g hg g0 W hW => pool_Take.calls _ _ _ _ _ _ _ _ W hW (take_f b n g hb2 hg g0)
    have free : ∀ g : Nat, g < 18446744073709551616 → Says 15 #[.agg #[.int .u64 b, .int .i64 n, .int .u64 g]] (.int .i64 (pc 64 g : Nat)) :=
      fun g hg W _ => pool_Free.calls _ _ _ _ W (free_f b n g hg)
    have rest : (b ≤ u ∧ u - b < n ∧ getN f (u - b) 1 = 0) → ∃ (f2 y c : Nat) (f3 : Nat), Says 13 #[.agg #[.int .u64 b, .int .i64 n, .int .u64 f], .int .u64 u] (.tuple #[.agg #[.int .u64 b, .int .i64 n, .int .u64 f2], .int .i64 0]) ∧
        Says 11 #[.agg #[.int .u64 b, .int .i64 n, .int .u64 f2]] (.tuple #[.agg #[.int .u64 b, .int .i64 n, .int .u64 f3], .int .u64 y, .int .i64 0]) ∧
        Says 15 #[.agg #[.int .u64 b, .int .i64 n, .int .u64 f2]] (.int .i64 ((c : Int) + 1)) ∧ Says 15 #[.agg #[.int .u64 b, .int .i64 n, .int .u64 f]] (.int .i64 c) ∧ c ≤ 64 ∧ y ≤ u ∧ (y = u → f3 = f) := by
      intro hc
      obtain ⟨hi64, ht, hG⟩ := gives hc (u - b) rfl
      have hs := bit_set f (u - b) 1 (u - b) hf hi64 (by decide)
      have g0 : setN f (u - b) 1 1 ≠ 0 := by intro e; rw [e] at hs; simp at hs
      have hle := ctz_low (setN f (u - b) 1 1) (u - b) hi64 (by rw [hs]; simp)
      refine ⟨setN f (u - b) 1 1, b + ctz (setN f (u - b) 1 1), pc 64 f, _, hG, takes _ (setN_lt _ _ _ _) g0, ?_, free f hf, pc_le 64 f, by omega, fun e => ?_⟩
      · have := free (setN f (u - b) 1 1) (setN_lt _ _ _ _)
        rw [pc_add f (u - b) hf hi64 ht] at this
        exact this
      · have e1 : ctz (setN f (u - b) 1 1) = u - b := by omega
        rw [e1]
        exact back f (u - b) hf hi64 false ht 1 (by decide)
    have wr : ∀ c : Nat, c ≤ 64 → IntKind.i64.wrap ((c : Int) + 1) = (c : Int) + 1 := fun c h => by rw [IntKind.wrap_i64]; omega
    have fin : ∀ (y u : Nat), y ≤ u → (y : Int) ≤ (u : Int) := fun y u h => by omega
    by_cases f0 : f = 0
    · have hT : Says 11 #[.agg #[.int .u64 b, .int .i64 n, .int .u64 f]] (.tuple #[.agg #[.int .u64 b, .int .i64 n, .int .u64 f], .int .u64 0, .int .i64 8]) := fun W hW => by
        refine pool_Take.calls _ _ _ _ _ _ _ _ W hW ?_
        unfold pool_Take.f
        rw [if_pos ⟨by omega, by omega, by omega, by omega⟩, if_pos (by omega)]
      by_cases hc : b ≤ u ∧ u - b < n ∧ getN f (u - b) 1 = 0
      · obtain ⟨f2, y, c, f3, hG, hD, hM, hN, hcX, hle, he⟩ := rest hc
        by_cases hyu : y = u
        · rw [he hyu] at hD
          exact walk_011 b n f u f2 y c w hl hR hT hG hD hM hN (wr c hcX) (fin _ _ hle) (by subst hyu; simp)
        · exact walk_010 b n f u f2 y c f3 w hl hR hT hG hD hM hN (wr c hcX) (fin _ _ hle) (by simp; omega)
      · obtain ⟨hG, hI⟩ := keeps hc
        exact walk_000 b n f u w hl hR hT hG hI
    · have hc64 := ctz_pos f hf f0
      have hbit : f.testBit (ctz f) = true := by
        rcases ctz_cases f with ⟨e, _⟩ | ⟨_, h, _⟩
        · omega
        · exact h
      have hcn : ctz f < n := by
        rcases Nat.lt_or_ge (ctz f) n with h | h
        · exact h
        · rw [hlow' _ h] at hbit; cases hbit
      have hT := takes f hf f0
      have ht1 : (setN f (ctz f) 1 0).testBit (ctz f) = false := by rw [bit_set f (ctz f) 0 (ctz f) hf hc64 (by decide)]; simp
      have hB : Says 13 #[.agg #[.int .u64 b, .int .i64 n, .int .u64 (setN f (ctz f) 1 0 : Nat)], .int .u64 (b + ctz f : Nat)] (.tuple #[.agg #[.int .u64 b, .int .i64 n, .int .u64 f], .int .i64 0]) := fun W _ => by
        have g := give_f b n (setN f (ctz f) 1 0) (ctz f) hb2 hn (setN_lt _ _ _ _) hcn ht1
        have := back f (ctz f) hf hc64 true hbit 0 (by decide)
        rw [show setN (setN f (ctz f) 1 0) (ctz f) 1 1 = f from this] at g
        exact pool_Give.calls _ _ _ _ _ _ _ _ W g
      have hJ : Says 17 #[.agg #[.int .u64 b, .int .i64 n, .int .u64 (setN f (ctz f) 1 0 : Nat)], .int .u64 (b + ctz f : Nat)] (.bool true) := fun W _ => by
        have his := is_f b n (setN f (ctz f) 1 0) (b + ctz f) hb2 hn (setN_lt _ _ _ _) (by omega)
        rw [decide_eq_true ⟨by omega, by omega, by rw [Nat.add_sub_cancel_left, get1 _ _ (setN_lt _ _ _ _) hc64, ht1]; rfl⟩] at his
        exact pool_Is.calls _ _ _ _ _ W his
      have hK : Says 17 #[.agg #[.int .u64 b, .int .i64 n, .int .u64 f], .int .u64 (b + ctz f : Nat)] (.bool false) := fun W _ => by
        have his := is_f b n f (b + ctz f) hb2 hn hf (by omega)
        rw [decide_eq_false (by rintro ⟨_, _, h⟩; rw [Nat.add_sub_cancel_left, get1 _ _ hf hc64, hbit] at h; simp at h)] at his
        exact pool_Is.calls _ _ _ _ _ W his
      by_cases hc : b ≤ u ∧ u - b < n ∧ getN f (u - b) 1 = 0
      · obtain ⟨f2, y, c, f3, hG, hD, hM, hN, hcX, hle, he⟩ := rest hc
        by_cases hyu : y = u
        · rw [he hyu] at hD
          exact walk_111 b n f u _ _ f2 y c w hl hR hT hB hJ hK hG hD hM hN (wr c hcX) (fin _ _ hle) (by subst hyu; simp)
        · exact walk_110 b n f u _ _ f2 y c f3 w hl hR hT hB hJ hK hG hD hM hN (wr c hcX) (fin _ _ hle) (by simp; omega)
      · obtain ⟨hG, hI⟩ := keeps hc
        exact walk_100 b n f u _ _ w hl hR hT hB hJ hK hG hI
theorem calls (a0 b0 c0 a1 : Int) (w : World) (hl : Ld w) (h0 : (Lit.int .u64 a0).wf = true) (h2 : (Lit.int .u64 c0).wf = true) (h1 : (Lit.int .u64 a1).wf = true) :
    Calls Tryd.prog 6 #[.agg #[.int .u64 a0, .int .i64 b0, .int .u64 c0], .int .u64 a1] w fun e w' => e = .returned (.bool true) ∧ Below w.heap.size w w' := by
  obtain ⟨n, rfl, hn⟩ := u64_of a0 h0
  obtain ⟨f, rfl, hf⟩ := u64_of c0 h2
  obtain ⟨u, rfl, hu⟩ := u64_of a1 h1
  exact law n u f b0 hn hu hf w hl
end Go.Proofs.YtojklokbdmelhaaDoor.SPoolBack
