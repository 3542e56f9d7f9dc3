/- Walks of functions, written by the session's own program wip/sx/sxgen.py; Lean checks them. -/
import Derived.Test.YtfkmcdkncmapmaaGreatDoorY02
import Derived.Test.YtfkmcdkncmapmaaGreatDoorY26
import Derived.Test.YtfkmcdkncmapmaaGreatDoorProg
set_option linter.unusedVariables false
set_option linter.unusedSimpArgs false
set_option maxRecDepth 100000
set_option maxHeartbeats 2000000
namespace Go.Proofs.YtfkmcdkncmapmaaGreatDoor
open Go Go.RowKit
namespace D
theorem testBit_take (p : Pool) (hp : p.Ok) (h0 : p.free ≠ 0) (i : Nat) : p.take.free.testBit i = (if i = ctz p.free then false else p.free.testBit i) := by
 have hc := ctz_pos p.free hp.free h0
 unfold Pool.take
 rw [if_neg h0]
 show (Bits.setN p.free (ctz p.free) 1 0).testBit i = _
 rw [Bits.testBit_setN _ _ _ _ _ hp.free]
 by_cases hi : i = ctz p.free
 · subst hi; rw [if_pos ko, if_pos rfl]; simp
 · rw [if_neg hi]
   by_cases hlt : i < 64
   · have : ¬ (ctz p.free ≤ i ∧ i < ctz p.free + 1) := by omega
     simp only [if_neg (show ¬ (ctz p.free ≤ i ∧ i < ctz p.free + 1 ∧ i < 64) by omega)]
   · rw [Bits.bit_high _ i hp.free ko]; simp
theorem take_lt {p : Pool} (hp : p.Ok) (h0 : p.free ≠ 0) : p.take.free < p.free := by
 have hb : p.free.testBit (ctz p.free) = true := by
  rcases ctz_cases p.free with ⟨h, _⟩ | ⟨_, h, _⟩
  · have := ctz_pos p.free hp.free h0; omega
  · exact h
 have hsub : p.free &&& p.take.free = p.take.free := Nat.eq_of_testBit_eq fun i => by
  rw [Nat.testBit_and, testBit_take p hp h0]
  by_cases hi : i = ctz p.free
  · rw [if_pos hi]; simp
  · rw [if_neg hi, Bool.and_self]
 have hle : p.take.free ≤ p.free := by rw [← hsub]; exact Nat.and_le_left
 have hne : p.take.free ≠ p.free := fun h => by
  have := testBit_take p hp h0 (ctz p.free)
  rw [if_pos rfl, h, hb] at this
  cases this
 omega
theorem take_ok {p : Pool} (hp : p.Ok) : p.take.Ok := by
 by_cases h0 : p.free = 0
 · unfold Pool.take; rw [if_pos h0]; exact hp
 · refine ⟨by unfold Pool.take; rw [if_neg h0]; exact hp.base, by unfold Pool.take; rw [if_neg h0]; exact hp.many, Nat.lt_trans (take_lt hp h0) hp.free⟩
theorem freshM_size (m : Mem) (p : Pool) : (freshM m p).size = m.size := by unfold freshM; split <;> rfl
theorem withM_size (m : Mem) (s : Spot) (addr : Nat) (p : Pte) : (withM m s addr p).size = m.size := storeM_size _ _ _ _
theorem reach_tb (m : Mem) (addr want : Nat) : ∀ (l t : Nat), t < 4503599627370495 → (reach m addr want l t).table < 4503599627370495
 | 0, t, h => h
 | l + 1, t, h => by
  have := atN_ppn m t (indexN addr ((l + 1 : Nat) : Int))
  unfold reach; split
  · exact reach_tb m addr want l _ ko
  · exact h
theorem reach_lv (m : Mem) (addr want : Nat) : ∀ (l t : Nat), l ≤ 2 → (reach m addr want l t).level = 0 ∨ (reach m addr want l t).level = 1 ∨ (reach m addr want l t).level = 2
 | 0, t, _ => .inl rfl
 | l + 1, t, h => by
  unfold reach; split
  · exact reach_lv m addr want l _ ko
  · show ((l + 1 : Nat) : Int) = 0 ∨ ((l + 1 : Nat) : Int) = 1 ∨ ((l + 1 : Nat) : Int) = 2; omega
def Spot.zero : Spot := ⟨0, 0, Pte.zero⟩
structure Dn where
 mem : Mem
 pool : Pool
 spot : Spot
 err : Int
def downL (m : Mem) (p : Pool) (top level addr want : Nat) : Nat → Mem → Pool → Dn
 | 0, _, _ => ⟨m, p, Spot.zero, 8⟩
 | n + 1, nx, lf =>
  if (reach nx addr want level top).level = (want : Int) then ⟨nx, lf, reach nx addr want level top, 0⟩
  else if (reach nx addr want level top).pte.v = true then ⟨m, p, Spot.zero, 6⟩
  else if lf.free = 0 then ⟨m, p, Spot.zero, 8⟩
  else downL m p top level addr want n (withM (freshM nx lf) (reach nx addr want level top) addr (Pte.of (if lf.free = 0 then 0 else lf.next))) lf.take
def downN (m : Mem) (p : Pool) (top level addr want : Nat) : Dn := downL m p top level addr want (p.free + 1) m p
theorem of_lt {n : Nat} (h : n < 18446744073709551616) : (Pte.of n).Lt := ⟨by show (0 : Nat) < _; decide, h, by show (0 : Nat) < _; decide⟩
theorem next_lt {p : Pool} (hp : p.Ok) : (if p.free = 0 then 0 else p.next) < 524352 := by
 have h1 := hp.base; have h2 := ctz_pos p.free hp.free
 split
 · decide
 · rename_i h; have := h2 h; show p.base + ctz p.free < _; omega
end D
theorem Down_calls (m : D.Mem) (p : D.Pool) (top : Nat) (level : Nat) (addr : Nat) (want : Nat)  {no : List Nat} (s1 : SX.Sl) (w0 : World) (hno : ∀ b ∈ no, b < w0.heap.size) (hs1 : (D.memF s1 m.f).P w0 no) (hL : Ld w0) (hp : p.Ok) (ht : top < 4503599627370495) (hl : level ≤ 2) (hw : want ≤ 2) (haddr : addr < 18446744073709551616) (hms : m.size ≤ 1099511627776) : SX.Rets Tryz.prog 52 #[(D.Mem.enc m s1), (D.Pool.enc p), .int .u64 (((top : Nat) : Int)), .int .i64 (((level : Nat) : Int)), .int .u64 (((addr : Nat) : Int)), .int .i64 (((want : Nat) : Int))] w0 (fun r_ w => ∃ y1 : SX.Sl, r_ = (.tuple #[(D.Mem.enc ((D.downN m p top level addr want).mem) y1), (D.Pool.enc ((D.downN m p top level addr want).pool)), (D.Spot.enc ((D.downN m p top level addr want).spot)), .int .i64 ((D.downN m p top level addr want).err)]) ∧ (D.memF y1 (((D.downN m p top level addr want).mem).f)).P w no) := by
 refine SX.enterN (args := [(D.Mem.enc m s1), (D.Pool.enc p), .int .u64 (((top : Nat) : Int)), .int .i64 (((level : Nat) : Int)), .int .u64 (((addr : Nat) : Int)), .int .i64 (((want : Nat) : Int))]) (hno := hno) 67 Tryz.func52 rfl kr fun ac A H => ?_
 have H := H.known (D.memF s1 m.f) hs1
 refine XS (XR (Xb [0, 0, 0, 0, 0, 0] A H fun ac w A H => XD (XT (XS (SX.drawn 6 [0, 1] kr A H fun w H => SX.takes [0, 1] [(0, some 0), (1, some 1)] A H kr kd kr kr kr (Or.inl kr) fun ac A => ?_)))))
 let B0 := SX.bb H 0
 let B1 := SX.bb H 1
 let B2 := SX.bb H 2
 let B3 := SX.bb H 3
 let B4 := SX.bb H 4
 refine SX.joinD (fun ac w => ∃ B5 B6 : Nat, SX.Agrees 67 ac [(2, .int .u64 (((top : Nat) : Int))), (3, .int .i64 (((level : Nat) : Int))), (4, .int .u64 (((addr : Nat) : Int))), (5, .int .i64 (((want : Nat) : Int))), (6, .pointer (some ⟨B0, 0, none⟩)), (7, .pointer (some ⟨B1, 0, none⟩)), (12, .pointer (some ⟨B2, 0, none⟩)), (13, .pointer (some ⟨B3, 0, none⟩)), (14, .pointer (some ⟨B4, 0, none⟩)), (15, .int .i64 0), (16, .pointer (some ⟨B5, 0, none⟩)), (17, .pointer (some ⟨B6, 0, none⟩)), (23, (D.Mem.enc m s1)), (24, (D.Pool.enc p))] ∧ SX.Own w0 w [(B0, .cells (D.Mem.cs m s1) 30 (0, 0)), (B1, .cells (D.Pool.cs p) 39 (0, 0)), (B2, .cells #[.int .u64 0, (.slice none 0 0)] 30 (0, 0)), (B3, .cells #[.int .u64 0, .int .i64 0, .int .u64 0] 39 (0, 0)), (B4, .cells (D.Spot.cs (⟨0, 0, (⟨false, false, false, false, false, false, false, false, 0, 0, 0⟩ : D.Pte)⟩ : D.Spot)) 109 (0, 0)), (B5, .cells #[.int .u64 0, (.slice none 0 0)] 30 (0, 0)), (B6, .cells #[.int .u64 0, .int .i64 0, .int .u64 0] 39 (0, 0))] ⟨[(D.memF s1 m.f)], (SX.roOf H).fb, (SX.roOf H).no⟩) 2 (SX.msk 6 15) ?_ (fun hJ1 => ?_)
 · rintro ac w ⟨B5, B6, A, H⟩
   refine SX.act 4 5 [0, 1] A H kr kr kr (Or.inl kr) fun ac w A H => SX.act 5 6 [0, 1] A H kr kr kr (Or.inl kr) fun ac w A H => ?_
   refine SX.doneD kr ?_ _
   refine XT (XB ?_)
   refine SX.loopG (σ := D.Mem × D.Pool × Nat) (fun g ac w => match g with | (nx, lf, q) => ∃ B0 B1 B2 B3 B4 B5 B6 : Nat, ∃ zn : SX.Sl, (lf.Ok ∧ nx.size = m.size ∧ lf.free < q ∧ D.downN m p top level addr want = D.downL m p top level addr want q nx lf) ∧ SX.Agrees 67 ac [(2, .int .u64 (((top : Nat) : Int))), (3, .int .i64 (((level : Nat) : Int))), (4, .int .u64 (((addr : Nat) : Int))), (5, .int .i64 (((want : Nat) : Int))), (6, .pointer (some ⟨B0, 0, none⟩)), (7, .pointer (some ⟨B1, 0, none⟩)), (12, .pointer (some ⟨B2, 0, none⟩)), (13, .pointer (some ⟨B3, 0, none⟩)), (14, .pointer (some ⟨B4, 0, none⟩)), (15, .int .i64 0), (16, .pointer (some ⟨B5, 0, none⟩)), (17, .pointer (some ⟨B6, 0, none⟩))] ∧ SX.Own w0 w [(B0, .cells (D.Mem.cs m s1) 30 (0, 0)), (B1, .cells (D.Pool.cs p) 39 (0, 0)), (B2, .cells #[.int .u64 0, (.slice none 0 0)] 30 (0, 0)), (B3, .cells #[.int .u64 0, .int .i64 0, .int .u64 0] 39 (0, 0)), (B4, .cells (D.Spot.cs (⟨0, 0, (⟨false, false, false, false, false, false, false, false, 0, 0, 0⟩ : D.Pte)⟩ : D.Spot)) 109 (0, 0)), (B5, .cells (D.Mem.cs (⟨nx.size, nx.f⟩ : D.Mem) zn) 30 (0, 0)), (B6, .cells (D.Pool.cs lf) 39 (0, 0))] ⟨[(D.memF zn nx.f), (D.memF s1 m.f)], (SX.roOf H).fb, (SX.roOf H).no⟩) (fun g => match g with | (nx, lf, q) => q) (m, p, p.free + 1) ?_ ?_
   · exact ⟨SX.bb H 0, SX.bb H 1, SX.bb H 2, SX.bb H 3, SX.bb H 4, SX.bb H 5, SX.bb H 6, s1, (⟨hp, rfl, Nat.lt_succ_self _, rfl⟩), A.sub _ kr, (H.pick [0, 1, 2, 3, 4, 5, 6] _ kc kr).ro_pick [0, 0] _ kr⟩
   rintro ⟨nx, lf, q⟩ ac w ⟨B0, B1, B2, B3, B4, B5, B6, zn, hI, A, H⟩
   refine XB (XS (XR (Xb [5, 0, 0, 0, 0] A H fun ac w A H => Xc A H (Reach_calls (⟨nx.size, nx.f⟩ : D.Mem) top level addr want zn w H.nos_lt (H.fact' 0 (D.memF zn nx.f) kr) (hL.below H.below) ko ko ko ko) fun ac w A H => Xb [0, 7] A H fun ac w A H => XD (XT (XS (XB (XS (XR (Xb [0, 7, 0, 0, 0] A H fun ac w A H => XD (XT ?_))))))))))
   refine Xs (((D.reach (⟨nx.size, nx.f⟩ : D.Mem) addr want level top).level) == ((want : Nat) : Int)) (fun h1 => ?_) fun h1 => ?_
   ·
    have A := A.rb 31 h1
    have h1p : (D.reach (⟨nx.size, nx.f⟩ : D.Mem) addr want level top).level = ((want : Nat) : Int) := kp h1
    refine Xt A (XS (SX.drawn 7 [5, 6, 7] kr A H fun w H => SX.takes [5, 6, 7] [(0, some 0), (1, some 1), (2, some 2)] A H kr kd kr kr kr (Or.inl kr) fun ac A => SX.act 3 2 [5, 6, 7] A H kr kr kr (Or.inl kr) fun ac w A H => SX.act 4 3 [5, 6, 7] A H kr kr kr (Or.inl kr) fun ac w A H => SX.act 5 4 [5, 6, 7] A H kr kr kr (Or.inl kr) fun ac w A H => SX.takes [5, 6, 7] [(6, none)] A H kr kd kr kr kr (Or.inl kr) fun ac A => ?_))
    refine SX.doneD kr ?_ _
    refine XT (XW (XQ (XU (XQ (XU (XQ (Xr [2, 3, 4, 0] ((.tuple #[(D.Mem.enc (⟨nx.size, nx.f⟩ : D.Mem) zn), (D.Pool.enc lf), (D.Spot.enc (D.reach (⟨nx.size, nx.f⟩ : D.Mem) addr want level top)), .int .i64 0])) A H ?_)))))))
    obtain ⟨hI1, hI2, hI3, hI4⟩ := hI
    obtain ⟨n, rfl⟩ : ∃ n, q = n + 1 := ⟨q - 1, by omega⟩
    have hf : D.downN m p top level addr want = ⟨nx, lf, D.reach nx addr want level top, 0⟩ := by rw [hI4, D.downL, if_pos ko]
    refine ⟨zn, ?_, (by rw [hf]; exact (H.out 0 (D.memF zn nx.f) kr))⟩
    rw [hf]
    all_goals rfl
   ·
    have A := A.rb 31 h1
    have h1p : ¬ ((D.reach (⟨nx.size, nx.f⟩ : D.Mem) addr want level top).level = ((want : Nat) : Int)) := kp h1
    refine Xf A (XS (XR (Xb [0, 0, 7, 0] A H fun ac w A H => XD (XT ?_))))
    refine Xs ((D.reach (⟨nx.size, nx.f⟩ : D.Mem) addr want level top).pte.v) (fun h2 => ?_) fun h2 => ?_
    ·
     have A := A.rb 39 h2
     refine Xt A (XS (SX.drawn 7 [0, 1] kr A H fun w H => SX.takes [0, 1] [(0, some 0), (1, some 1), (2, none)] A H kr kd kr kr kr (Or.inl kr) fun ac A => SX.act 3 2 [0, 1] A H kr kr kr (Or.inl kr) fun ac w A H => SX.act 4 3 [0, 1] A H kr kr kr (Or.inl kr) fun ac w A H => SX.act 5 4 [0, 1] A H kr kr kr (Or.inl kr) fun ac w A H => SX.takes [0, 1] [(6, none)] A H kr kd kr kr kr (Or.inl kr) fun ac A => ?_))
     refine SX.doneD kr ?_ _
     refine XT (XW (XQ (XU (XQ (XU (XQ (Xr [2, 3, 4, 0] ((.tuple #[(D.Mem.enc m s1), (D.Pool.enc p), (D.Spot.enc (⟨0, 0, (⟨false, false, false, false, false, false, false, false, 0, 0, 0⟩ : D.Pte)⟩ : D.Spot)), .int .i64 6])) A H ?_)))))))
     obtain ⟨hI1, hI2, hI3, hI4⟩ := hI
     obtain ⟨n, rfl⟩ : ∃ n, q = n + 1 := ⟨q - 1, by omega⟩
     have hf : D.downN m p top level addr want = ⟨m, p, D.Spot.zero, 6⟩ := by rw [hI4, D.downL, if_neg ko, if_pos h2]
     refine ⟨s1, ?_, (by rw [hf]; exact (H.out 1 (D.memF s1 m.f) kr))⟩
     rw [hf]
     all_goals rfl
    ·
     have A := A.rb 39 h2
     refine Xf A (XK (XN (XT (XS (XR (Xb [5, 6] A H fun ac w A H => SX.call A H (Fresh_calls (⟨nx.size, nx.f⟩ : D.Mem) lf zn w H.nos_lt (H.fact' 0 (D.memF zn nx.f) kr) (hL.below H.below) (hI.1)) kr kr ?_))))))
     rintro _ ac w ⟨z2, rfl, hz2⟩ A H
     have H := H.learn (D.memF z2 ((D.freshM (⟨nx.size, nx.f⟩ : D.Mem) lf).f)) hz2
     refine Xb [0, 0, 0, 0, 0, 0, 0, 8, 9, 0, 0] A H fun ac w A H => XD (XT (XS (XS (XR (Xb [0, 0] A H fun ac w A H => XD (XT ?_))))))
     refine Xs ((if lf.free = 0 then (8 : Int) else 0) != 0) (fun h3 => ?_) fun h3 => ?_
     ·
      have A := A.rb 55 h3
      have h3p : (if lf.free = 0 then (8 : Int) else 0) ≠ 0 := kp h3
      refine Xt A (XS (SX.drawn 8 [0, 1] kr A H fun w H => SX.takes [0, 1] [(0, some 0), (1, some 1), (2, none), (3, none)] A H kr kd kr kr kr (Or.inl kr) fun ac A => SX.act 4 2 [0, 1] A H kr kr kr (Or.inl kr) fun ac w A H => SX.act 5 3 [0, 1] A H kr kr kr (Or.inl kr) fun ac w A H => SX.act 6 4 [0, 1] A H kr kr kr (Or.inl kr) fun ac w A H => SX.takes [0, 1] [(7, none)] A H kr kd kr kr kr (Or.inl kr) fun ac A => ?_))
      refine SX.doneD kr ?_ _
      refine XT (XW (XU (XQ (XU (XQ (Xr [2, 3, 4, 0] ((.tuple #[(D.Mem.enc m s1), (D.Pool.enc p), (D.Spot.enc (⟨0, 0, (⟨false, false, false, false, false, false, false, false, 0, 0, 0⟩ : D.Pte)⟩ : D.Spot)), .int .i64 (if lf.free = 0 then (8 : Int) else 0)])) A H ?_))))))
      obtain ⟨hI1, hI2, hI3, hI4⟩ := hI
      obtain ⟨n, rfl⟩ : ∃ n, q = n + 1 := ⟨q - 1, by omega⟩
      have hfz : lf.free = 0 := Decidable.byContradiction (fun hz => by have hq := h3; rw [if_neg hz] at hq; cases hq)
      have hf : D.downN m p top level addr want = ⟨m, p, D.Spot.zero, 8⟩ := by rw [hI4, D.downL, if_neg ko, if_neg (by rw [h2]; decide), if_pos hfz]
      refine ⟨s1, ?_, (by rw [hf]; exact (H.out 2 (D.memF s1 m.f) kr))⟩
      rw [hf]
      simp only [if_pos hfz]
      all_goals rfl
     ·
      have A := A.rb 55 h3
      have h3p : ¬ ((if lf.free = 0 then (8 : Int) else 0) ≠ 0) := kp h3
      refine Xf A (XK (XT (SX.drawn 9 [7, 8, 9] kr A H fun w H => SX.takes [7, 8, 9] [(0, some 1), (1, some 0), (2, none), (3, none), (6, some 2)] A H kr kd kr kr kr (Or.inl kr) fun ac A => SX.callGD 4 [7, 8, 9] A H (link_calls (if lf.free = 0 then 0 else lf.next) w) kr kr kr kr (Or.inl kr) fun ac w A H => SX.callD 5 [7, 8, 9] A H (With_calls (D.freshM (⟨nx.size, nx.f⟩ : D.Mem) lf) (D.reach (⟨nx.size, nx.f⟩ : D.Mem) addr want level top) addr (D.Pte.of (if lf.free = 0 then 0 else lf.next)) z2 w H.nos_lt (H.fact' 0 (D.memF z2 ((D.freshM (⟨nx.size, nx.f⟩ : D.Mem) lf).f)) kr) (haddr) (D.reach_lv _ _ _ _ _ hl) (D.reach_tb _ _ _ _ _ ht) (D.of_lt (Nat.lt_trans (D.next_lt hI.1) kc)) (by rw [D.freshM_size, hI.2.1]; exact hms)) kr kr kr kr (Or.inl kr) ?_)))
      rintro _ ac w ⟨z3, rfl, hz3⟩ A H
      have H := H.learn (D.memF z3 ((D.withM (D.freshM (⟨nx.size, nx.f⟩ : D.Mem) lf) (D.reach (⟨nx.size, nx.f⟩ : D.Mem) addr want level top) addr (D.Pte.of (if lf.free = 0 then 0 else lf.next))).f)) hz3
      refine SX.act 7 5 [7, 8, 9] A H kr kr kr (Or.inl kr) (k := 1) fun ac w A H => SX.act 8 6 [7, 8, 9] A H kr kr kr (Or.inl kr) (k := 1) fun ac w A H => ?_
      refine SX.doneD kr ?_ _
      refine XN (XT ?_)
      have hfz : lf.free ≠ 0 := by intro hz; have hq := h3; rw [if_pos hz] at hq; cases hq
      obtain ⟨hI1, hI2, hI3, hI4⟩ := hI
      obtain ⟨n, rfl⟩ : ∃ n, q = n + 1 := ⟨q - 1, by omega⟩
      have htl := D.take_lt hI1 hfz
      exact ⟨((D.withM (D.freshM nx lf) (D.reach nx addr want level top) addr (D.Pte.of (if lf.free = 0 then 0 else lf.next))), lf.take, n), ⟨SX.bb H 0, SX.bb H 1, SX.bb H 2, SX.bb H 3, SX.bb H 4, SX.bb H 5, SX.bb H 6, z3, (⟨D.take_ok hI1, by rw [D.withM_size, D.freshM_size]; exact hI2, by omega, by rw [hI4, D.downL, if_neg ko, if_neg (by rw [h2]; decide), if_neg hfz]⟩), A.sub _ kr, (H.pick [0, 1, 2, 3, 4, 5, 6] _ kc kr).ro_pick [0, 3] _ kr⟩, by show n < n + 1; omega⟩
 refine SX.many 2 [3] kr kr (SX.allC_cons ?_ (SX.allC_cons ?_ SX.allC_nil))
 ·
  refine SX.act_op 2 0 [0, 1] A H kr (Or.inl kr) fun ac w A H => SX.act 3 0 [0, 1] A H kr kr kr (Or.inl kr) fun ac w A H => ?_
  exact SX.useD hJ1 kr kr ⟨SX.bb H 5, SX.bb H 6, A.sub _ kr, (H.pick [0, 1, 2, 3, 4, 5, 6] _ kc kr).ro_pick [0] _ kr⟩
 ·
  refine SX.act_op 3 0 [0, 1] A H kr (Or.inl kr) fun ac w A H => SX.act 2 0 [0, 1] A H kr kr kr (Or.inl kr) fun ac w A H => ?_
  exact SX.useD hJ1 kr kr ⟨SX.bb H 6, SX.bb H 5, A.sub _ kr, (H.pick [0, 1, 2, 3, 4, 6, 5] _ kc kr).ro_pick [0] _ kr⟩
end Go.Proofs.YtfkmcdkncmapmaaGreatDoor
set_option linter.unusedVariables false
set_option linter.unusedSimpArgs false
set_option maxRecDepth 100000
set_option maxHeartbeats 2000000
namespace Go.Proofs.YtfkmcdkncmapmaaGreatDoor
open Go Go.RowKit
namespace D
theorem down_inv (m : Mem) (p : Pool) (top level addr want : Nat) (ht : top < 4503599627370495) (hl : level ≤ 2) : ∀ (n : Nat) (nx : Mem) (lf : Pool), nx.size = m.size → lf.Ok → p.Ok →
 (downL m p top level addr want n nx lf).spot.table < 4503599627370495 ∧ ((downL m p top level addr want n nx lf).spot.level = 0 ∨ (downL m p top level addr want n nx lf).spot.level = 1 ∨ (downL m p top level addr want n nx lf).spot.level = 2) ∧ (downL m p top level addr want n nx lf).mem.size = m.size ∧ (downL m p top level addr want n nx lf).pool.Ok
 | 0, nx, lf, _, _, hp => ⟨by show (0 : Nat) < _; decide, .inl rfl, rfl, hp⟩
 | n + 1, nx, lf, hs, hlf, hp => by
  unfold downL
  split
  · exact ⟨reach_tb _ _ _ _ _ ht, reach_lv _ _ _ _ _ hl, hs, hlf⟩
  · split
    · exact ⟨by show (0 : Nat) < _; decide, .inl rfl, rfl, hp⟩
    · split
      · exact ⟨by show (0 : Nat) < _; decide, .inl rfl, rfl, hp⟩
      · exact down_inv m p top level addr want ht hl n _ _ (by rw [withM_size, freshM_size]; exact hs) (take_ok hlf) hp
theorem where_ok {k : Kernel} {id : Int} {addr : Nat} {level : Int} (h1 : k.shared < 4503599627370495) (h2 : (k.sp id).root < 4503599627370495) : (whereN k id addr level).top < 4503599627370495 ∧ (whereN k id addr level).lv ≤ 2 := by
 unfold whereN whereB
 split
 · exact ⟨by show (0 : Nat) < _; decide, by show (0 : Nat) ≤ _; decide⟩
 · split
   · exact ⟨by show (0 : Nat) < _; decide, by show (0 : Nat) ≤ _; decide⟩
   · split
     · exact ⟨by show (0 : Nat) < _; decide, by show (0 : Nat) ≤ _; decide⟩
     · split
       · exact ⟨by show (0 : Nat) < _; decide, by show (0 : Nat) ≤ _; decide⟩
       · split
         · exact ⟨h1, by show (1 : Nat) ≤ _; decide⟩
         · exact ⟨h2, Nat.le_refl _⟩
def Kernel.withMP (k : Kernel) (m : Mem) (p : Pool) : Kernel := ⟨k.conf, m, k.hart, p, k.asids, k.spaces, k.now, k.shared, k.fences⟩

def Kernel.down (k : Kernel) (id : Int) (addr level : Nat) : Dn := downN k.mem k.pool (whereN k id addr (level : Int)).top (whereN k id addr (level : Int)).lv addr level
def mapN (k : Kernel) (id : Int) (addr pa level : Nat) (p : Perm) : KErr :=
 if (whereN k id addr (level : Int)).err ≠ 0 then ⟨k, (whereN k id addr (level : Int)).err⟩
 else if even pa (sizeN (level : Int)) = false then ⟨k, 2⟩
 else if (decide (pa < k.conf.data.toNat * 4096) && decide (sizeN (level : Int) ≤ k.conf.data.toNat * 4096 - pa)) = false then ⟨k, 3⟩
 else if p.may = false then ⟨k, 5⟩
 else if (reach k.mem addr level (whereN k id addr (level : Int)).lv (whereN k id addr (level : Int)).top).pte.v = true then ⟨k, 6⟩
 else if (k.down id addr level).err ≠ 0 then ⟨k, (k.down id addr level).err⟩
 else ⟨k.withMP (withM (k.down id addr level).mem (k.down id addr level).spot addr (Pte.make (pa / 4096) p (id == (-1)))) (k.down id addr level).pool, 0⟩
end D
theorem map2_calls  (pa : Nat) (size : Nat) (w0 : World) (bpa : Nat) (Tpa : TypeId) (fpa : Nat × Nat) (hbpa : w0.heap[bpa]? = some (.cells #[.int .u64 (((pa : Nat) : Int))] Tpa fpa)) (bsize : Nat) (Tsize : TypeId) (fsize : Nat × Nat) (hbsize : w0.heap[bsize]? = some (.cells #[.int .u64 (((size : Nat) : Int))] Tsize fsize)) : SX.Gives Tryz.prog 47 #[.pointer (some ⟨bpa, 0, none⟩), .pointer (some ⟨bsize, 0, none⟩)] w0 (.int .i64 (if even pa size then (0 : Int) else 2)) := by
 refine SX.enter (args := [.pointer (some ⟨bpa, 0, none⟩), .pointer (some ⟨bsize, 0, none⟩)]) 7 Tryz.func47 rfl kr fun ac A H => ?_
 have H := H.fb_old hbpa
 have H := H.fb_old hbsize
 refine XS (XR (Xb [0] A H fun ac w A H => XD (XT (XS (XR (Xb [1000, 1001] A H fun ac w A H => Xc A H (Even_calls pa size w) fun ac w A H => Xc A H (must_calls (even pa size) 2 w) fun ac w A H => Xb [0] A H fun ac w A H => XD (XT (XW (Xr [0] (.int .i64 (if (even pa size) then 0 else 2)) A H ?_)))))))))
 rfl
theorem map3_calls  (pa : Nat) (data : Nat) (size : Nat) (w0 : World) (bpa : Nat) (Tpa : TypeId) (fpa : Nat × Nat) (hbpa : w0.heap[bpa]? = some (.cells #[.int .u64 (((pa : Nat) : Int))] Tpa fpa)) (bdata : Nat) (Tdata : TypeId) (fdata : Nat × Nat) (hbdata : w0.heap[bdata]? = some (.cells #[.int .u64 (((data : Nat) : Int))] Tdata fdata)) (bsize : Nat) (Tsize : TypeId) (fsize : Nat × Nat) (hbsize : w0.heap[bsize]? = some (.cells #[.int .u64 (((size : Nat) : Int))] Tsize fsize)) (hd : data < 18446744073709551616) : SX.Gives Tryz.prog 49 #[.pointer (some ⟨bpa, 0, none⟩), .pointer (some ⟨bdata, 0, none⟩), .pointer (some ⟨bsize, 0, none⟩)] w0 (.int .i64 (if (decide (pa < data) && decide (size ≤ data - pa)) then (0 : Int) else 3)) := by
 refine SX.enter (args := [.pointer (some ⟨bpa, 0, none⟩), .pointer (some ⟨bdata, 0, none⟩), .pointer (some ⟨bsize, 0, none⟩)]) 15 Tryz.func49 rfl kr fun ac A H => ?_
 have H := H.fb_old hbpa
 have H := H.fb_old hbdata
 have H := H.fb_old hbsize
 refine XS (XR (Xb [0] A H fun ac w A H => XD (XT (XS (XR (Xb [1000, 1001, 0, 0] A H fun ac w A H => ?_))))))
 refine Xs (decide (((pa : Nat) : Int) < ((data : Nat) : Int))) (fun h1 => ?_) fun h1 => ?_
 ·
  have A := A.rb 7 h1
  have h1p : pa < data := kp h1
  refine Xb [1002, 1001, 1000, 0] A H fun ac w A H => ?_
  have A := A.re 11 (.int .u64 (IntKind.u64.wrap (((data : Nat) : Int) - ((pa : Nat) : Int)))) (.int .u64 ((((data - pa) : Nat) : Int))) kr (SX.u_sub data pa ko ko)
  refine Xb [0, 0] A H fun ac w A H => Xc A H (must_calls (decide (((size : Nat) : Int) ≤ (((data - pa) : Nat) : Int))) 3 w) fun ac w A H => Xb [0] A H fun ac w A H => XD (XT (XW (Xr [0] (.int .i64 (if (decide (((size : Nat) : Int) ≤ (((data - pa) : Nat) : Int))) then 0 else 3)) A H ?_)))
  first | rfl | (simp [h1, h1p]; done) | (simp_all; done)
 ·
  have A := A.rb 7 h1
  have h1p : ¬ (pa < data) := kp h1
  refine Xb [0, 0, 0, 0, 0, 0] A H fun ac w A H => Xc A H (must_calls false 3 w) fun ac w A H => Xb [0] A H fun ac w A H => XD (XT (XW (Xr [0] (.int .i64 (if false then 0 else 3)) A H ?_)))
  first | rfl | (simp [h1, h1p]; done) | (simp_all; done)
theorem map4_calls  (p : D.Perm) (w0 : World) (bp : Nat) (Tp : TypeId) (fp : Nat × Nat) (hbp : w0.heap[bp]? = some (.cells #[.bool p.r, .bool p.w, .bool p.x, .bool p.u] Tp fp)) : SX.Gives Tryz.prog 50 #[.pointer (some ⟨bp, 0, none⟩)] w0 (.int .i64 (if p.may then (0 : Int) else 5)) := by
 refine SX.enter (args := [.pointer (some ⟨bp, 0, none⟩)]) 5 Tryz.func50 rfl kr fun ac A H => ?_
 have H := H.fb_old hbp
 refine XS (XR (Xb [0] A H fun ac w A H => XD (XT (XS (XR (Xb [1000] A H fun ac w A H => Xc A H (permMay_calls p w) fun ac w A H => Xc A H (must_calls p.may 5 w) fun ac w A H => Xb [0] A H fun ac w A H => XD (XT (XW (Xr [0] (.int .i64 (if p.may then 0 else 5)) A H ?_)))))))))
 rfl
theorem map1_calls  (k : D.Kernel) (top : Nat) (at_ : Nat) (addr : Nat) (level : Nat) {no : List Nat} (s1 s2 s3 s4 : SX.Sl) (w0 : World) (hno : ∀ b ∈ no, b < w0.heap.size) (hs1 : (D.memF s1 k.mem.f).P w0 no) (hs2 : (D.tlbF s2 k.hart.tlb.sets).P w0 no) (hs3 : (D.spsF s3 k.spaces).P w0 no) (hs4 : (D.fnsF s4 k.fences).P w0 no) (hL : Ld w0) (bk : Nat) (Tk : TypeId) (fk : Nat × Nat) (hbk : w0.heap[bk]? = some (.cells #[.int .i64 (k.conf.data), .int .i64 (k.conf.pool), .int .i64 (k.conf.asids), .int .i64 (k.conf.sets), .int .u64 (((k.mem.size : Nat) : Int)), .slice s1.a s1.n s1.c, .slice s2.a s2.n s2.c, .int .u64 (((k.hart.satp.mode : Nat) : Int)), .int .u64 (((k.hart.satp.asid : Nat) : Int)), .int .u64 (((k.hart.satp.ppn : Nat) : Int)), .int .i64 (k.hart.priv), .bool k.hart.sum, .bool k.hart.mxr, .int .i64 (k.hart.victim), .int .u64 (((k.pool.base : Nat) : Int)), .int .i64 (k.pool.many), .int .u64 (((k.pool.free : Nat) : Int)), .int .i64 (k.asids.many), .int .u64 (((k.asids.free : Nat) : Int)), .int .u64 (((k.asids.owned : Nat) : Int)), .slice s3.a s3.n s3.c, .int .i64 (k.now), .int .u64 (((k.shared : Nat) : Int)), .slice s4.a s4.n s4.c] Tk fk)) (btop : Nat) (Ttop : TypeId) (ftop : Nat × Nat) (hbtop : w0.heap[btop]? = some (.cells #[.int .u64 (((top : Nat) : Int))] Ttop ftop)) (bat_ : Nat) (Tat_ : TypeId) (fat_ : Nat × Nat) (hbat_ : w0.heap[bat_]? = some (.cells #[.int .i64 (((at_ : Nat) : Int))] Tat_ fat_)) (baddr : Nat) (Taddr : TypeId) (faddr : Nat × Nat) (hbaddr : w0.heap[baddr]? = some (.cells #[.int .u64 (((addr : Nat) : Int))] Taddr faddr)) (blevel : Nat) (Tlevel : TypeId) (flevel : Nat × Nat) (hblevel : w0.heap[blevel]? = some (.cells #[.int .i64 (((level : Nat) : Int))] Tlevel flevel)) (ht : top < 4503599627370495) (hl : at_ ≤ 2) (hw : level ≤ 2) (haddr : addr < 18446744073709551616) : SX.Gives Tryz.prog 44 #[.pointer (some ⟨bk, 0, none⟩), .pointer (some ⟨btop, 0, none⟩), .pointer (some ⟨bat_, 0, none⟩), .pointer (some ⟨baddr, 0, none⟩), .pointer (some ⟨blevel, 0, none⟩)] w0 (.int .i64 (if (!(D.reach k.mem addr level at_ top).pte.v) then (0 : Int) else 6)) := by
 refine SX.enterN (args := [.pointer (some ⟨bk, 0, none⟩), .pointer (some ⟨btop, 0, none⟩), .pointer (some ⟨bat_, 0, none⟩), .pointer (some ⟨baddr, 0, none⟩), .pointer (some ⟨blevel, 0, none⟩)]) (hno := hno) 19 Tryz.func44 rfl kr fun ac A H => ?_
 have H := H.known (D.memF s1 k.mem.f) hs1
 have H := H.known (D.tlbF s2 k.hart.tlb.sets) hs2
 have H := H.known (D.spsF s3 k.spaces) hs3
 have H := H.known (D.fnsF s4 k.fences) hs4
 have H := H.fb_old hbk
 have H := H.fb_old hbtop
 have H := H.fb_old hbat_
 have H := H.fb_old hbaddr
 have H := H.fb_old hblevel
 refine XS (XR (Xb [0] A H fun ac w A H => XD (XT (XS (XR (Xb [0, 1000, 1001, 1002, 1003, 1004] A H fun ac w A H => Xc A H (Reach_calls k.mem top at_ addr level s1 w H.nos_lt (H.fact' 3 (D.memF s1 k.mem.f) kr) (hL.below H.below) ko ko ko ko) fun ac w A H => Xb [0, 0] A H fun ac w A H => XD (XT (XS (XR (Xb [0, 0, 0, 0] A H fun ac w A H => Xc A H (must_calls (!((D.reach k.mem addr level at_ top).pte.v)) 6 w) fun ac w A H => Xb [0] A H fun ac w A H => XD (XT (XW (Xr [0] (.int .i64 (if (!((D.reach k.mem addr level at_ top).pte.v)) then 0 else 6)) A H ?_)))))))))))))
 rfl
end Go.Proofs.YtfkmcdkncmapmaaGreatDoor
