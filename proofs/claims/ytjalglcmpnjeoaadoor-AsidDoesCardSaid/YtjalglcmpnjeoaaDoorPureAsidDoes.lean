/- AsidDoes: what each call answers, and the walk at each way. -/
import Derived.Test.YtjalglcmpnjeoaaDoorWAsidDoes
import Derived.Test.YtjalglcmpnjeoaaDoorRAsidP
set_option linter.unusedVariables false
set_option linter.unusedSimpArgs false
namespace Go.Proofs.YtjalglcmpnjeoaaDoor.SAsidDoes
open Go.RowKit Go.Proofs.YtjalglcmpnjeoaaDoorW.PrintWords Go.Proofs.YtjalglcmpnjeoaaDoor.Bits Go.Proofs.YtjalglcmpnjeoaaDoor.Pop Go.Proofs.YtjalglcmpnjeoaaDoor.SAsidAll

def A3 (m f o : Int) : Value := .agg #[.int .i64 m, .int .u64 f, .int .u64 o]
theorem news (many : Int) (h0 : 1 ≤ many) (h1 : many ≤ 16) : ∃ x0 x1 x2 : Int, Says 7 #[.int .i64 many] (.tuple #[.agg #[.int .i64 x0, .int .u64 x1, .int .u64 x2], .int .i64 0]) ∧ Says 8 #[.int .i64 many] (.agg #[.int .i64 x0, .int .u64 x1, .int .u64 x2]) := by
  obtain ⟨n, rfl⟩ := Int.eq_ofNat_of_zero_le (show 0 ≤ many by omega)
  exact ⟨_, _, _, fun W _ => asid_New.calls _ _ _ _ _ W (anew_yes n (by omega) (by omega)), fun W _ => atlasref18_New.calls 200 _ _ _ _ W (rnew_f n 200 (by omega) (by omega))⟩
theorem nonew (many : Int) (h : many < 1 ∨ 16 < many) : Says 7 #[.int .i64 many] (.tuple #[.agg #[.int .i64 0, .int .u64 0, .int .u64 0], .int .i64 1]) :=
  fun W _ => asid_New.calls _ _ _ _ _ W (anew_no many h)
theorem takes (n f o : Nat) (hn : n ≤ 16) (hf : f < 18446744073709551616) (ho : o < 18446744073709551616) (hlow : ∀ j, n ≤ j → f.testBit j = false) : ∃ (t0 t1 t2 x er : Int) (was : Bool),
    Says 11 #[.agg #[.int .i64 n, .int .u64 f, .int .u64 o]] (.tuple #[.agg #[.int .i64 t0, .int .u64 t1, .int .u64 t2], .int .u64 x, .bool was, .int .i64 er]) ∧
    Says 12 #[.agg #[.int .i64 n, .int .u64 f, .int .u64 o]] (.tuple #[.agg #[.int .i64 t0, .int .u64 t1, .int .u64 t2], .int .u64 x, .bool was, .int .i64 er]) := by
  have R := fun W => rtake_calls n f o hn hf ho hlow W
  by_cases c : f = 0
  · refine ⟨n, f, o, 0, 9, false, fun W hW => asid_Take.calls n f o n f o 0 false 9 W hW ?_, fun W _ => ?_⟩
    · unfold asid_Take.f
      rw [if_pos (by simp; omega)]
    · have := R W
      rw [if_pos c] at this
      exact this
  · refine ⟨_, _, _, _, _, _, fun W hW => asid_Take.calls _ _ _ _ _ _ _ _ _ W hW (take_f n f o hf ho c), fun W _ => ?_⟩
    have := R W
    rw [if_neg c] at this
    exact this
theorem gives (n f o u : Nat) (hn : n ≤ 16) (hf : f < 18446744073709551616) (hu : u < 18446744073709551616) : ∃ g0 g1 g2 g : Int,
    Says 13 #[.agg #[.int .i64 n, .int .u64 f, .int .u64 o], .int .u64 u] (.tuple #[.agg #[.int .i64 g0, .int .u64 g1, .int .u64 g2], .int .i64 g]) ∧
    Says 14 #[.agg #[.int .i64 n, .int .u64 f, .int .u64 o], .int .u64 u] (.tuple #[.agg #[.int .i64 g0, .int .u64 g1, .int .u64 g2], .int .i64 g]) := by
  have R := fun W => rgive_calls n f o u hn hf hu W
  by_cases c : u < 1 ∨ n < u ∨ getN f (u - 1) 1 = 1
  · refine ⟨_, _, _, _, fun W _ => asid_Give.calls n f o u n f o 1 W ?_, fun W _ => ?_⟩
    · unfold asid_Give.f
      rw [if_pos ⟨by omega, by omega, by omega, by omega, by omega, by omega⟩, if_pos (by rw [show (((u : Int) - 1).toNat) = u - 1 by omega, Int.toNat_natCast]; omega)]
    · have := R W
      rw [if_pos c] at this
      exact this
  · refine ⟨_, _, _, _, fun W _ => asid_Give.calls n f o u n ((setN f (u - 1) 1 1 : Nat) : Int) o 0 W ?_, fun W _ => ?_⟩
    · unfold asid_Give.f
      rw [if_pos ⟨by omega, by omega, by omega, by omega, by omega, by omega⟩, show (((u : Int) - 1).toNat) = u - 1 by omega, Int.toNat_natCast, if_neg (by omega)]
    · have := R W
      rw [if_neg c] at this
      exact this
theorem law (u f o : Nat) (m many : Int) (hu : u < 18446744073709551616) (hf : f < 18446744073709551616) (ho : o < 18446744073709551616) (w : World) (hl : Ld w) :
    Calls Tryd.prog 3 #[.agg #[.int .i64 m, .int .u64 f, .int .u64 o], .int .u64 u, .int .i64 many] w fun e w' => e = .returned (.bool true) ∧ Below w.heap.size w w' := by
  obtain ⟨r, hr, hi⟩ := right_f m f o hf ho 400 (by omega)
  have hS : Says 10 #[.agg #[.int .i64 m, .int .u64 f, .int .u64 o]] (.bool r) := fun W _ => atlasref18_Right.calls 400 m f o r W hr
  have hR : Says 9 #[.agg #[.int .i64 m, .int .u64 f, .int .u64 o]] (.bool r) := fun W _ => asid_Right.calls m f o r W (by
    cases r with
    | false => exact aright_no m f o hf ho fun h => by simpa using hi.2 h
    | true => exact aright_yes m f o hf ho (hi.1 rfl))
  cases r with
  | false =>
    by_cases h0 : 1 ≤ many
    · by_cases h1 : many ≤ 16
      · obtain ⟨x0, x1, x2, hx, hy⟩ := news many h0 h1
        exact walk_yes_no m f o u many x0 x1 x2 w hl h0 h1 hx hy hR hS
      · exact walk_hi_no m f o u many w hl (by omega) (nonew many (by omega)) hR hS
    · exact walk_lo_no m f o u many w hl (by omega) (nonew many (by omega)) hR hS
  | true =>
    obtain ⟨a0, a1, hlow⟩ := hi.1 rfl
    obtain ⟨n, rfl⟩ := Int.eq_ofNat_of_zero_le (show 0 ≤ m by omega)
    have hlow' : ∀ j : Nat, n ≤ j → f.testBit j = false := fun j hj => (hlow j (by omega)).1
    obtain ⟨t0, t1, t2, x, er, was, hT, hU⟩ := takes n f o (by omega) hf ho hlow'
    obtain ⟨g0, g1, g2, g, hG, hH⟩ := gives n f o u (by omega) hf hu
    have hM : Says 15 #[.agg #[.int .i64 n, .int .u64 f, .int .u64 o]] (.int .i64 (pc 64 f : Nat)) := fun W _ => asid_Free.calls _ _ _ _ W (free_f n o f hf)
    have hN : Says 16 #[.agg #[.int .i64 n, .int .u64 f, .int .u64 o]] (.int .i64 (pc 64 f : Nat)) := fun W _ => atlasref18_Free.calls 400 _ _ _ _ W (rfree_f n o f 400 hf (by omega) hlow' (by omega))
    by_cases h0 : 1 ≤ many
    · by_cases h1 : many ≤ 16
      · obtain ⟨x0, x1, x2, hx, hy⟩ := news many h0 h1
        exact walk_yes_yes n f o u many x0 x1 x2 t0 t1 t2 x er g0 g1 g2 g _ was w hl h0 h1 hx hy hR hS hT hU hG hH hM hN
      · exact walk_hi_yes n f o u many t0 t1 t2 x er g0 g1 g2 g _ was w hl (by omega) (nonew many (by omega)) hR hS hT hU hG hH hM hN
    · exact walk_lo_yes n f o u many t0 t1 t2 x er g0 g1 g2 g _ was w hl (by omega) (nonew many (by omega)) hR hS hT hU hG hH hM hN
theorem calls (a0 b0 c0 a1 a2 : Int) (w : World) (hl : Ld w) (h0 : (Lit.int .u64 b0).wf = true) (h2 : (Lit.int .u64 c0).wf = true) (h1 : (Lit.int .u64 a1).wf = true) :
    Calls Tryd.prog 3 #[.agg #[.int .i64 a0, .int .u64 b0, .int .u64 c0], .int .u64 a1, .int .i64 a2] w fun e w' => e = .returned (.bool true) ∧ Below w.heap.size w w' := by
  obtain ⟨f, rfl, hf⟩ := u64_of b0 h0
  obtain ⟨o, rfl, ho⟩ := u64_of c0 h2
  obtain ⟨u, rfl, hu⟩ := u64_of a1 h1
  exact law u f o a0 a2 hu hf ho w hl
end Go.Proofs.YtjalglcmpnjeoaaDoor.SAsidDoes
