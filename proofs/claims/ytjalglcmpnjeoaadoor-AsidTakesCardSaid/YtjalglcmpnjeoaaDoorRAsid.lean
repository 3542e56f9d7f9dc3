/- The reference's functions of layer 18 (Set, Take, Give), walked by hand over the contracts of what they call. -/
import Derived.Test.YtjalglcmpnjeoaaDoorPureAsidAll
import Derived.Deep.LoopGhost
set_option linter.unusedVariables false
set_option linter.unusedSimpArgs false
namespace Go.Proofs.YtjalglcmpnjeoaaDoor.SAsidAll
open Go.RowKit Go.Proofs.YtjalglcmpnjeoaaDoorW.PrintWords Go.Proofs.YtjalglcmpnjeoaaDoorW.PrintLast Go.Proofs.YtjalglcmpnjeoaaDoorW.PrintMore Go.Proofs.YtjalglcmpnjeoaaDoor.Bits Go.Proofs.YtjalglcmpnjeoaaDoor.Pop

/-! ### atlasref01_of, atlasref01_Set: functions 25 and 18, walked by hand -/
/-- The word of some bits, the lowest first. -/
def wordOf : List Bool → Nat
  | [] => 0
  | b :: bs => b.toNat + 2 * wordOf bs
theorem wordOf_lt (bs : List Bool) : wordOf bs < 2 ^ bs.length := by
  induction bs with
  | nil => simp [wordOf]
  | cons b bs ih =>
    rw [wordOf, List.length_cons, Nat.pow_succ]
    cases b <;> simp <;> omega
def bv (bs : List Bool) : Array Value := (bs.map fun b => Value.bool b).toArray
theorem bv_at (bs : List Bool) (j : Nat) (h : j < bs.length) : (bv bs)[j]? = some (.bool (bs.getD j false)) := by
  simp [bv, List.getElem?_eq_getElem h, List.getD_eq_getElem?_getD]
theorem wordOf_drop (bs : List Bool) (j : Nat) (h : j < bs.length) : wordOf (bs.drop j) = (bs.getD j false).toNat + 2 * wordOf (bs.drop (j + 1)) := by
  rw [List.drop_eq_getElem_cons h, wordOf]
  simp [List.getD_eq_getElem?_getD, List.getElem?_eq_getElem h]
theorem wordOf_small (bs : List Bool) (hl : bs.length = 64) (j : Nat) : wordOf (bs.drop (j + 1)) < 9223372036854775808 := by
  have h := wordOf_lt (bs.drop (j + 1))
  have h2 : 2 ^ (bs.drop (j + 1)).length ≤ 2 ^ 63 := Nat.pow_le_pow_right (by decide) (by rw [List.length_drop]; omega)
  have h3 : (2 : Nat) ^ 63 = 9223372036854775808 := by decide
  omega
set_option maxRecDepth 100000 in
theorem of_calls (bs : List Bool) (hl : bs.length = 64) (w : World) :
    Calls Tryd.prog 25 #[.agg (bv bs)] w fun e w' => e = .returned (.int .u64 ((wordOf bs : Nat) : Int)) ∧ Below w.heap.size w w' := by
  have hz : (bv bs).size = 64 := by simp [bv, hl]
  have hid := Lib.hid (fun o => below_alloc (Below.refl w.heap.size w) o)
  have HL := Lib.hid hl
  clear hl
  go_enter Tryd.func25, Tryd.ntmps25
  go_wp2_with fail
  go_loop [3, 4] (fun v i => ∃ k : Nat, k ≤ 64 ∧ i = .int .i64 ((k : Int) - 1) ∧ v = .int .u64 ((wordOf (bs.drop k) : Nat) : Int)) (fun _ i => (intOf i + 1).toNat)
  case atStart => exact ⟨64, by omega, rfl, by rw [List.drop_of_length_le (by rw [HL.out]; omega)]; rfl⟩
  case round =>
    obtain ⟨k, hk, rfl, rfl⟩ := hrel
    cases k with
    | zero =>
      rw [show (((0 : Nat) : Int) - 1) = -1 from rfl, List.drop_zero]
      go_wp2_with fail
      go_ret
      exact ⟨rfl, hid.out _⟩
    | succ j =>
      have hs := wordOf_small bs HL.out j
      have hd := wordOf_drop bs j (by rw [HL.out]; omega)
      have hc := bv_at bs j (by rw [HL.out]; omega)
      generalize hx : wordOf (bs.drop (j + 1)) = x at hs hd
      have h2 : IntKind.u64.wrap ((x : Int) * 2) = ((2 * x : Nat) : Int) := by rw [show ((x : Int) * 2) = ((2 * x : Nat) : Int) by omega, Bits.wrap_u _ (by omega)]
      have h3 : IntKind.u64.wrap (((2 * x : Nat) : Int) + 1) = ((2 * x + 1 : Nat) : Int) := by rw [show (((2 * x : Nat) : Int) + 1) = ((2 * x + 1 : Nat) : Int) by omega, Bits.wrap_u _ (by omega)]
      rw [show (((j + 1 : Nat) : Int) - 1) = (j : Int) by omega]
      have hj : (j : Int) < 64 := by omega
      cases hb : bs.getD j false with
      | false =>
        rw [hb] at hc hd
        have hd' : wordOf (bs.drop j) = 2 * x := by rw [hd]; simp
        have HD := Lib.hid hd'
        have H3 := Lib.hid h3
        clear hd hd' hs hb h3 hx
        generalize hy : ((2 * x : Nat) : Int) = y at h2
        have HY := Lib.hid hy
        clear hy
        go_wp2_with fail
        go_round
        case rel => exact ⟨j, by omega, rfl, by rw [HD.out, HY.out]⟩
        case measure => simp [intOf]
      | true =>
        rw [hb] at hc hd
        have hd' : wordOf (bs.drop j) = 2 * x + 1 := by rw [hd]; simp; omega
        have HD := Lib.hid hd'
        clear hd hd' hs hb hx
        generalize hy : ((2 * x : Nat) : Int) = y at h2 h3
        generalize hy1 : ((2 * x + 1 : Nat) : Int) = y1 at h3
        have HY := Lib.hid hy1
        clear hy hy1
        go_wp2_with fail
        go_round
        case rel => exact ⟨j, by omega, rfl, by rw [HD.out, HY.out]⟩
        case measure => simp [intOf]
theorem bit_far (w k : Nat) (i : Int) (hi : i < 0 ∨ 63 < i) (hk : 0 < k) : atlasref01_Bit.f k (w : Int) i = some false := by
  obtain ⟨k, rfl⟩ : ∃ m, k = m + 1 := ⟨k - 1, by omega⟩
  unfold atlasref01_Bit.f
  by_cases h : i < 0
  · rw [if_pos h, atlasref01_Bit.j0, if_pos rfl]
  · rw [if_neg h, decide_eq_true (by omega), atlasref01_Bit.j0, if_pos rfl]
/-- The bits of a word whose field, from 'lo' on, is another one: the first 'i' of them, the others not yet laid. -/
def fbit (w lo n v j : Nat) : Bool := if lo ≤ j ∧ j < lo + n then v.testBit (j - lo) else w.testBit j
def fbits (w lo n v i : Nat) : List Bool := (List.range 64).map fun j => if j < i then fbit w lo n v j else false
theorem fbits_len (w lo n v i : Nat) : (fbits w lo n v i).length = 64 := by simp [fbits]
theorem fbits_at (w lo n v i j : Nat) (h : j < 64) : (fbits w lo n v i).getD j false = if j < i then fbit w lo n v j else false := by
  simp [fbits, List.getD_eq_getElem?_getD, List.getElem?_map, List.getElem?_range h]
theorem testBit_wordOf (bs : List Bool) (j : Nat) : (wordOf bs).testBit j = bs.getD j false := by
  induction bs generalizing j with
  | nil => simp [wordOf]
  | cons b bs ih =>
    rw [wordOf]
    cases j with
    | zero => cases b <;> simp [Nat.testBit_zero]
    | succ j =>
      have : (b.toNat + 2 * wordOf bs) / 2 = wordOf bs := by cases b <;> simp <;> omega
      rw [Nat.testBit_succ, this, ih]
      simp
theorem wordOf_fbits (w lo n v : Nat) (hw : w < 18446744073709551616) : wordOf (fbits w lo n v 64) = Bits.setN w lo n v := by
  refine Bits.eq_of_bits fun j => ?_
  rw [testBit_wordOf, Bits.testBit_setN _ _ _ _ _ hw]
  by_cases h : j < 64
  · rw [fbits_at _ _ _ _ _ _ h, if_pos h, fbit]
    by_cases h2 : lo ≤ j ∧ j < lo + n
    · rw [if_pos h2, if_pos ⟨h2.1, h2.2, h⟩]
    · rw [if_neg h2, if_neg (fun x => h2 ⟨x.1, x.2.1⟩)]
  · rw [if_neg (fun x => h x.2.2), Bits.bit_high w j hw (by omega)]
    rw [List.getD_eq_getElem?_getD, List.getElem?_eq_none (by rw [fbits_len]; omega)]
    rfl
theorem bv_set (bs : List Bool) (i : Nat) (b : Bool) : (bv bs).setIfInBounds i (.bool b) = bv (bs.set i b) := by
  simp [bv, List.map_set]
theorem fbits_set (w lo n v i : Nat) (h : i < 64) : (fbits w lo n v i).set i (fbit w lo n v i) = fbits w lo n v (i + 1) := by
  refine List.ext_getElem (by simp [fbits]) fun j h1 h2 => ?_
  have hj : j < 64 := by rw [fbits_len] at h2; exact h2
  rw [List.getElem_set]
  by_cases e : i = j
  · subst e; simp [fbits]
  · simp only [e, if_false, fbits, List.getElem_map, List.getElem_range]
    by_cases h3 : j < i
    · simp [h3, show j < i + 1 by omega]
    · simp [h3, show ¬ j < i + 1 by omega]
theorem block_cell {w : World} {B : Nat} {cs : Array Value} {t : TypeId} (h : w.heap[B]? = some (.cells cs t (0, 0))) (i : Nat) (v : Value) (hv : cs[i]? = some v) : w.cell? ⟨B, i, none⟩ = some v ∧ w.frozen? ⟨B, i, none⟩ = false := by
  constructor
  · simp [World.cell?, h, hv]
  · simp [World.frozen?, h]
theorem info_bv (bs : List Bool) (h : bs.length = 64) : (Tryd.prog.info? 50).map (·.size) = some (bv bs).size := by
  rw [show (bv bs).size = 64 by simp [bv, h]]
  kernel_rfl
theorem set_last {x lo n v i : Nat} {b : Bool} {t : TypeId} {fr : Nat × Nat} (hi : i < 64) (h : fbit x lo n v i = b) : some (Obj.cells (bv ((fbits x lo n v i).set i b)) t fr) = some (.cells (bv (fbits x lo n v (i + 1))) t fr) := by
  rw [← h, fbits_set x lo n v i hi]
theorem set_once {W : World} {B i : Nat} {bs : List Bool} {t : TypeId} (hW : W.heap[B]? = some (.cells (bv bs) t (0, 0))) (b : Bool) : (W.setCell ⟨B, i, none⟩ (.bool b)).heap[B]? = some (.cells (bv (bs.set i b)) t (0, 0)) := by
  rw [heap_setCell_same W B i _ _ _ hW, bv_set]
set_option maxRecDepth 100000 in
set_option maxHeartbeats 8000000 in
theorem rset_calls (x lo n v : Nat) (w : World) (hx : x < 18446744073709551616) (hv : v < 18446744073709551616) (hlo : lo < 1000000) (hn : n < 1000000) :
    Calls Tryd.prog 18 #[.int .u64 (x : Int), .int .i64 (lo : Int), .int .i64 (n : Int), .int .u64 (v : Int)] w fun e w' => e = .returned (.int .u64 ((Bits.setN x lo n v : Nat) : Int)) ∧ Below w.heap.size w w' := by
  have HX := Lib.hid hx
  have HV := Lib.hid hv
  have hid := Lib.hid (fun o => below_alloc (Below.refl w.heap.size w) o)
  clear hx hv
  go_enter Tryd.func18, Tryd.ntmps18
  go_wp2_with fail
  go_loopw [10] (fun t wr => ∃ i : Nat, i ≤ 64 ∧ t = .int .i64 (i : Int) ∧ wr.heap[w.heap.size]? = some (.cells (bv (fbits x lo n v i)) 50 (0, 0)) ∧ Below w.heap.size w wr) (fun t _ => 64 - (intOf t).toNat)
  case atStart => exact ⟨0, by omega, rfl, (heap_alloc_new _ _).trans (by rfl), hid.out _⟩
  case round =>
    obtain ⟨i, hi, rfl, hg, hb⟩ := hrel
    have hidb := Lib.hid hb
    have HG := Lib.hid hg
    by_cases hlt : i < 64
    · obtain ⟨hc, hfz⟩ := block_cell hg i (.bool false) ((bv_at _ i (by rw [fbits_len]; exact hlt)).trans (by rw [fbits_at _ _ _ _ _ _ hlt, if_neg (by omega)]))
      clear hb hg
      have e0 := Lib.hid (bit_f x i 67 HX.out hlt (by omega))
      by_cases c1 : lo ≤ i
      · by_cases c2 : i < lo + n
        · have q1 : (lo : Int) ≤ (i : Int) := by omega
          have q2 : (i : Int) < (lo : Int) + (n : Int) := by omega
          have e1 := Lib.hid (bit_f v (i - lo) 67 HV.out (by omega) (by omega))
          have e2 := Lib.hid (show (i : Int) - (lo : Int) = ((i - lo : Nat) : Int) by omega)
          go_wp2_with fail
          refine (atlasref01_Bit.calls 67 (x : Int) (i : Int) _ _ e0.out).mono ?_
          rintro e w1 ⟨rfl, ⟨nd, rfl⟩⟩
          go_wp2_with fail
          rw [e2.out]
          refine (atlasref01_Bit.calls 67 (v : Int) ((i - lo : Nat) : Int) _ _ e1.out).mono ?_
          rintro e w2 ⟨rfl, ⟨nd2, rfl⟩⟩
          go_wp2_with fail
          go_roundw
          case rel =>
            have HF : fbit x lo n v i = v.testBit (i - lo) := if_pos ⟨c1, c2⟩
            refine ⟨i + 1, by omega, by go_num, ?_, ?_⟩
            · have g1 := set_once (W := wr.drewN nd) (i := i) HG.out (x.testBit i)
              have g2 := set_once (W := ((wr.drewN nd).setCell ⟨w.heap.size, i, none⟩ (.bool (x.testBit i))).drewN nd2) (i := i) g1 (v.testBit (i - lo))
              rw [List.set_set] at g2
              exact g2.trans (set_last hlt HF)
            · exact (pw_below_drewN ((pw_below_drewN hidb.out nd).setCell (Nat.le_refl _) _) nd2).setCell (Nat.le_refl _) _
          case measure => simp [intOf]; omega
        · have q1 : (lo : Int) ≤ (i : Int) := by omega
          have q2 : decide ((i : Int) < (lo : Int) + (n : Int)) = false := decide_eq_false (by omega)
          go_wp2_with fail
          refine (atlasref01_Bit.calls 67 (x : Int) (i : Int) _ _ e0.out).mono ?_
          rintro e w1 ⟨rfl, ⟨nd, rfl⟩⟩
          go_wp2_with fail
          go_roundw
          case rel =>
            have HF : fbit x lo n v i = x.testBit i := if_neg (fun h => c2 h.2)
            refine ⟨i + 1, by omega, by go_num, ?_, ?_⟩
            · exact (set_once (W := wr.drewN nd) HG.out _).trans (set_last hlt HF)
            · exact (pw_below_drewN hidb.out nd).setCell (Nat.le_refl _) _
          case measure => simp [intOf]; omega
      · have q1 : decide ((lo : Int) ≤ (i : Int)) = false := decide_eq_false (by omega)
        go_wp2_with fail
        refine (atlasref01_Bit.calls 67 (x : Int) (i : Int) _ _ e0.out).mono ?_
        rintro e w1 ⟨rfl, ⟨nd, rfl⟩⟩
        go_wp2_with fail
        go_roundw
        case rel =>
          have HF : fbit x lo n v i = x.testBit i := if_neg (fun h => c1 h.1)
          refine ⟨i + 1, by omega, by go_num, ?_, ?_⟩
          · exact (set_once (W := wr.drewN nd) HG.out _).trans (set_last hlt HF)
          · exact (pw_below_drewN hidb.out nd).setCell (Nat.le_refl _) _
        case measure => simp [intOf]; omega
    · obtain rfl : i = 64 := by omega
      clear hb hg
      go_wp2_with (refine wpList_load_row rfl 50 _ rfl w.heap.size rfl _ _ (0, 0) _ HG.out Tryd.underlying50 rfl (info_bv _ (fbits_len _ _ _ _ _)) ?_)
      refine (of_calls _ (fbits_len _ _ _ _ _) _).mono ?_
      rintro e w1 ⟨rfl, hb1⟩
      go_wp2_with fail
      go_ret
      exact ⟨by rw [← wordOf_fbits x lo n v HX.out]; rfl, below_then hidb.out hidb.out.size hb1⟩
/-- As the printed functions have it: a word whose field is another one. -/
def atlasref01_Set.f (w lo n v : Int) : Option Int := if 0 ≤ w ∧ w < 18446744073709551616 ∧ 0 ≤ lo ∧ lo < 1000000 ∧ 0 ≤ n ∧ n < 1000000 ∧ 0 ≤ v ∧ v < 18446744073709551616 then some ((Bits.setN w.toNat lo.toNat n.toNat v.toNat : Nat) : Int) else none
theorem atlasref01_Set.calls (a0 a1 a2 a3 : Int) (r : Int) (w : World) (h : atlasref01_Set.f a0 a1 a2 a3 = some r) :
    Calls Tryd.prog 18 #[.int .u64 a0, .int .i64 a1, .int .i64 a2, .int .u64 a3] w fun e w' => e = .returned (.int .u64 r) ∧ Below w.heap.size w w' := by
  unfold atlasref01_Set.f at h
  split at h
  · rename_i hh
    obtain ⟨b0, b1, b2, b3, b4, b5, b6, b7⟩ := hh
    obtain ⟨x, rfl⟩ := Int.eq_ofNat_of_zero_le b0
    obtain ⟨lo, rfl⟩ := Int.eq_ofNat_of_zero_le b2
    obtain ⟨n, rfl⟩ := Int.eq_ofNat_of_zero_le b4
    obtain ⟨v, rfl⟩ := Int.eq_ofNat_of_zero_le b6
    simp only [Int.toNat_natCast, Option.some.injEq] at h
    subst h
    exact rset_calls x lo n v w (by omega) (by omega) (by omega) (by omega)
  · cases h


/-! ### two blocks of three cells -/
structure Two (B : Nat) (a b c x y z : Value) (w : World) : Prop where
  c0 : w.cell? ⟨B, 0, none⟩ = some a
  c1 : w.cell? ⟨B, 1, none⟩ = some b
  c2 : w.cell? ⟨B, 2, none⟩ = some c
  f0 : w.frozen? ⟨B, 0, none⟩ = false
  f1 : w.frozen? ⟨B, 1, none⟩ = false
  f2 : w.frozen? ⟨B, 2, none⟩ = false
  d0 : w.cell? ⟨B + 1, 0, none⟩ = some x
  d1 : w.cell? ⟨B + 1, 1, none⟩ = some y
  d2 : w.cell? ⟨B + 1, 2, none⟩ = some z
  g0 : w.frozen? ⟨B + 1, 0, none⟩ = false
  g1 : w.frozen? ⟨B + 1, 1, none⟩ = false
  g2 : w.frozen? ⟨B + 1, 2, none⟩ = false
  lt : B + 1 < w.heap.size
theorem Two.new (w : World) (a b c x y z : Value) (t u : TypeId) : Two w.heap.size a b c x y z ((w.alloc (.cells #[a, b, c] t)).alloc (.cells #[x, y, z] u)) := by
  constructor <;> simp [go_sem]
theorem Two.below {B : Nat} {a b c x y z : Value} {w w1 : World} (h : Two B a b c x y z w) (hb : Below w.heap.size w w1) : Two B a b c x y z w1 := by
  have l0 : B < w.heap.size := by have := h.lt; omega
  exact ⟨(hb.cell (p := ⟨B, 0, none⟩) l0).trans h.c0, (hb.cell (p := ⟨B, 1, none⟩) l0).trans h.c1, (hb.cell (p := ⟨B, 2, none⟩) l0).trans h.c2,
    (hb.frozen (p := ⟨B, 0, none⟩) l0).trans h.f0, (hb.frozen (p := ⟨B, 1, none⟩) l0).trans h.f1, (hb.frozen (p := ⟨B, 2, none⟩) l0).trans h.f2,
    (hb.cell (p := ⟨B + 1, 0, none⟩) h.lt).trans h.d0, (hb.cell (p := ⟨B + 1, 1, none⟩) h.lt).trans h.d1, (hb.cell (p := ⟨B + 1, 2, none⟩) h.lt).trans h.d2,
    (hb.frozen (p := ⟨B + 1, 0, none⟩) h.lt).trans h.g0, (hb.frozen (p := ⟨B + 1, 1, none⟩) h.lt).trans h.g1, (hb.frozen (p := ⟨B + 1, 2, none⟩) h.lt).trans h.g2, Nat.lt_of_lt_of_le h.lt hb.size⟩
theorem Two.drewN {B : Nat} {a b c x y z : Value} {w : World} (h : Two B a b c x y z w) (n : Nat) : Two B a b c x y z (w.drewN n) := h.below (Drawn0.below ⟨⟨n, rfl⟩⟩)
theorem Two.set1 {B : Nat} {a b c x y z : Value} {w : World} (h : Two B a b c x y z w) (v : Value) : Two B a v c x y z (w.setCell ⟨B, 1, none⟩ v) := by
  obtain ⟨c0, c1, c2, f0, f1, f2, d0, d1, d2, g0, g1, g2, lt⟩ := h
  constructor <;> simp [go_sem, *]
theorem Two.set2 {B : Nat} {a b c x y z : Value} {w : World} (h : Two B a b c x y z w) (v : Value) : Two B a b v x y z (w.setCell ⟨B, 2, none⟩ v) := by
  obtain ⟨c0, c1, c2, f0, f1, f2, d0, d1, d2, g0, g1, g2, lt⟩ := h
  constructor <;> simp [go_sem, *]
def Takes (w : World) (a b c d : Int) (o : Bool) (r : Int) (e : Ending) (w' : World) : Prop := e = .returned (.tuple #[.agg #[.int .i64 a, .int .u64 b, .int .u64 c], .int .u64 d, .bool o, .int .i64 r]) ∧ Below w.heap.size w w'

/-! ### the reference's Take -/
set_option maxRecDepth 100000 in
set_option maxHeartbeats 2000000 in
theorem rtake_yes (f o c f' o' : Int) (was : Bool) (n t : Nat) (w : World) (hn : n ≤ 64) (htn : t < n)
    (hB : ∀ i : Nat, i < t → ∀ W, Calls Tryd.prog 20 #[.int .u64 f, .int .i64 (i : Int)] W fun e w' => e = .returned (.bool false) ∧ Drawn0 W w')
    (hT : ∀ W, Calls Tryd.prog 20 #[.int .u64 f, .int .i64 (t : Int)] W fun e w' => e = .returned (.bool true) ∧ Drawn0 W w')
    (hO : ∀ W, Calls Tryd.prog 20 #[.int .u64 o, .int .i64 (t : Int)] W fun e w' => e = .returned (.bool was) ∧ Drawn0 W w')
    (hS : ∀ W, Calls Tryd.prog 18 #[.int .u64 f, .int .i64 (t : Int), .int .i64 1, .int .u64 0] W fun e w' => e = .returned (.int .u64 f') ∧ Below W.heap.size W w')
    (hP : ∀ W, Calls Tryd.prog 18 #[.int .u64 o, .int .i64 (t : Int), .int .i64 1, .int .u64 1] W fun e w' => e = .returned (.int .u64 o') ∧ Below W.heap.size W w')
    (hc : IntKind.u64.wrap ((t : Int) + 1) = c) (hw : IntKind.u64.wrap (t : Int) = (t : Int)) :
    Calls Tryd.prog 12 #[.agg #[.int .i64 (n : Int), .int .u64 f, .int .u64 o]] w (Takes w n f' o' c was 0) := by
  have HB := Lib.hid hB
  have HT := Lib.hid hT
  have HO := Lib.hid hO
  have HS := Lib.hid hS
  have HP := Lib.hid hP
  have HC := Lib.hid hc
  have HW := Lib.hid hw
  clear hB hT hO hS hP hc hw
  have hid := Lib.hid (fun o1 o2 => below_alloc (below_alloc (Below.refl w.heap.size w) o1) o2)
  go_enter Tryd.func12, Tryd.ntmps12
  go_wp2_with fail
  go_loopw [6] (fun i wr => ∃ k : Nat, k ≤ t ∧ i = .int .i64 k ∧ Drawn0 ((w.alloc (.cells #[.int .i64 (n : Int), .int .u64 f, .int .u64 o] 24)).alloc (.cells #[.int .i64 0, .int .u64 0, .int .u64 0] 24)) wr)
    (fun i _ => t - (intOf i).toNat)
  case atStart => exact ⟨0, Nat.zero_le _, rfl, Drawn0.refl _⟩
  case round =>
    obtain ⟨k, hk, rfl, hd⟩ := hrel
    obtain ⟨⟨nd, rfl⟩⟩ := hd
    have hkn : (k : Int) < (n : Int) := by omega
    by_cases hkt : k < t
    · go_wp2_with (go_at_call 20; refine (HB.out k hkt _).mono ?_; rintro e w2 ⟨rfl, ⟨nd2, rfl⟩⟩)
      go_roundw
      case rel => exact ⟨k + 1, by omega, by go_num, ⟨⟨nd + nd2, rfl⟩⟩⟩
      case measure => simp [intOf]; omega
    · obtain rfl : k = t := by omega
      clear hkt
      go_wp2_with fail
      refine (HT.out _).mono ?_
      rintro e w2 ⟨rfl, ⟨nd2, rfl⟩⟩
      go_wp2_with fail
      refine (HO.out _).mono ?_
      rintro e w3 ⟨rfl, ⟨nd3, rfl⟩⟩
      go_wp2_with fail
      refine (HS.out _).mono ?_
      rintro e w4 ⟨rfl, hb⟩
      have T4 := Lib.hid (((Two.new w (.int .i64 (n : Int)) (.int .u64 f) (.int .u64 o) (.int .i64 0) (.int .u64 0) (.int .u64 0) 24 24)).below (below_step (Drawn0.below ⟨⟨_, rfl⟩⟩) hb))
      have hid4 := Lib.hid (below_step (hid.out _ _) (below_step (Drawn0.below ⟨⟨_, rfl⟩⟩) hb))
      clear hb hid
      obtain ⟨c0, c1, c2, f0, f1, f2, d0, d1, d2, g0, g1, g2, lt⟩ := T4.out
      go_wp2_with fail
      clear c0 c1 c2 f0 f1 f2 d0 d1 d2 g0 g1 g2 lt
      refine (HP.out _).mono ?_
      rintro e w5 ⟨rfl, hb⟩
      have T5 := Lib.hid ((T4.out.set1 _).below hb)
      have hid5 := Lib.hid (below_step (hid4.out.setCell (by simp) _) hb)
      clear hb hid4 T4
      obtain ⟨c0, c1, c2, f0, f1, f2, d0, d1, d2, g0, g1, g2, lt⟩ := T5.out
      have hw := HW.out
      have hc := HC.out
      go_wp2_with fail
      exact bodyPost_ret (v := .tuple #[.agg #[.int .i64 (n : Int), .int .u64 f', .int .u64 o'], .int .u64 c, .bool was, .int .i64 0]) (by simp [results, Tryd.results12, go_sem, d0, d1, d2, lt]) rfl
          ⟨rfl, (((((hid5.out.setCell (by simp) _).setCell (by simp) _).setCell (by simp) _).setCell (by simp) _))⟩
set_option maxRecDepth 100000 in
set_option maxHeartbeats 2000000 in
theorem rtake_no (f o : Int) (n : Nat) (w : World) (hn : n ≤ 64)
    (hB : ∀ i : Nat, i < n → ∀ W, Calls Tryd.prog 20 #[.int .u64 f, .int .i64 (i : Int)] W fun e w' => e = .returned (.bool false) ∧ Drawn0 W w') :
    Calls Tryd.prog 12 #[.agg #[.int .i64 (n : Int), .int .u64 f, .int .u64 o]] w (Takes w n f o 0 false 9) := by
  have HB := Lib.hid hB
  clear hB
  have hid := Lib.hid (fun o1 o2 => below_alloc (below_alloc (Below.refl w.heap.size w) o1) o2)
  go_enter Tryd.func12, Tryd.ntmps12
  go_wp2_with fail
  go_loopw [6] (fun i wr => ∃ k : Nat, k ≤ n ∧ i = .int .i64 k ∧ Drawn0 ((w.alloc (.cells #[.int .i64 (n : Int), .int .u64 f, .int .u64 o] 24)).alloc (.cells #[.int .i64 0, .int .u64 0, .int .u64 0] 24)) wr)
    (fun i _ => n - (intOf i).toNat)
  case atStart => exact ⟨0, Nat.zero_le _, rfl, Drawn0.refl _⟩
  case round =>
    obtain ⟨k, hk, rfl, hd⟩ := hrel
    obtain ⟨⟨nd, rfl⟩⟩ := hd
    by_cases hkt : k < n
    · have hkn : (k : Int) < (n : Int) := by omega
      go_wp2_with (go_at_call 20; refine (HB.out k hkt _).mono ?_; rintro e w2 ⟨rfl, ⟨nd2, rfl⟩⟩)
      go_roundw
      case rel => exact ⟨k + 1, by omega, by go_num, ⟨⟨nd + nd2, rfl⟩⟩⟩
      case measure => simp [intOf]; omega
    · obtain rfl : k = n := by omega
      clear hkt
      have hid1 := Lib.hid (fun o1 o2 => below_step (hid.out o1 o2) (Drawn0.below ⟨⟨nd, rfl⟩⟩))
      go_wp2_with fail
      exact bodyPost_ret (v := .tuple #[.agg #[.int .i64 (k : Int), .int .u64 f, .int .u64 o], .int .u64 0, .bool false, .int .i64 9]) (by simp [results, Tryd.results12, go_sem]) rfl
        ⟨rfl, ((((hid1.out _ _).setCell (by simp) _).setCell (by simp) _).setCell (by simp) _)⟩

/-! ### the reference's Give -/
set_option maxRecDepth 100000 in
set_option maxHeartbeats 2000000 in
/-- No number fits, or the one that fits is free. -/
theorem rgive_no (f o a : Int) (n : Nat) (w : World) (hn : n ≤ 64)
    (hB : ∀ i : Nat, i < n → (((i : Int) + 1 == a) = false ∨ (((i : Int) + 1 == a) = true ∧ ∀ W, Calls Tryd.prog 20 #[.int .u64 f, .int .i64 (i : Int)] W fun e w' => e = .returned (.bool true) ∧ Drawn0 W w'))) :
    Calls Tryd.prog 14 #[.agg #[.int .i64 (n : Int), .int .u64 f, .int .u64 o], .int .u64 a] w (Gives w n f o 1) := by
  have HB := Lib.hid hB
  clear hB
  have hid := Lib.hid (fun o1 o2 => below_alloc (below_alloc (Below.refl w.heap.size w) o1) o2)
  go_enter Tryd.func14, Tryd.ntmps14
  go_wp2_with fail
  go_loopw [6] (fun i wr => ∃ k : Nat, k ≤ n ∧ i = .int .i64 k ∧ Drawn0 ((w.alloc (.cells #[.int .i64 (n : Int), .int .u64 f, .int .u64 o] 24)).alloc (.cells #[.int .i64 0, .int .u64 0, .int .u64 0] 24)) wr)
    (fun i _ => n - (intOf i).toNat)
  case atStart => exact ⟨0, Nat.zero_le _, rfl, Drawn0.refl _⟩
  case round =>
    obtain ⟨k, hk, rfl, hd⟩ := hrel
    obtain ⟨⟨nd, rfl⟩⟩ := hd
    by_cases hkt : k < n
    · have hkn : (k : Int) < (n : Int) := by omega
      have hwk : IntKind.u64.wrap (k : Int) = (k : Int) := wrap_u k (by omega)
      rcases HB.out k hkt with hne | ⟨heq, hc⟩
      · go_wp2_with fail
        go_roundw
        case rel => exact ⟨k + 1, by omega, by go_num, ⟨⟨nd, rfl⟩⟩⟩
        case measure => simp [intOf]; omega
      · have HC := Lib.hid hc
        clear hc
        go_wp2_with (go_at_call 20; refine (HC.out _).mono ?_; rintro e w2 ⟨rfl, ⟨nd2, rfl⟩⟩)
        go_roundw
        case rel => exact ⟨k + 1, by omega, by go_num, ⟨⟨nd + nd2, rfl⟩⟩⟩
        case measure => simp [intOf]; omega
    · obtain rfl : k = n := by omega
      clear hkt
      have hid1 := Lib.hid (fun o1 o2 => below_step (hid.out o1 o2) (Drawn0.below ⟨⟨nd, rfl⟩⟩))
      go_wp2_with fail
      exact bodyPost_ret (v := .tuple #[.agg #[.int .i64 (k : Int), .int .u64 f, .int .u64 o], .int .i64 1]) (by simp [results, Tryd.results14, go_sem]) rfl
        ⟨rfl, ((((hid1.out _ _).setCell (by simp) _).setCell (by simp) _).setCell (by simp) _)⟩
set_option maxRecDepth 100000 in
set_option maxHeartbeats 2000000 in
theorem rgive_ok (f o a f' : Int) (n t : Nat) (w : World) (hn : n ≤ 64) (htn : t < n)
    (hB : ∀ i : Nat, i < t → ((i : Int) + 1 == a) = false) (hA : ((t : Int) + 1 == a) = true)
    (hT : ∀ W, Calls Tryd.prog 20 #[.int .u64 f, .int .i64 (t : Int)] W fun e w' => e = .returned (.bool false) ∧ Drawn0 W w')
    (hS : ∀ W, Calls Tryd.prog 18 #[.int .u64 f, .int .i64 (t : Int), .int .i64 1, .int .u64 1] W fun e w' => e = .returned (.int .u64 f') ∧ Below W.heap.size W w') :
    Calls Tryd.prog 14 #[.agg #[.int .i64 (n : Int), .int .u64 f, .int .u64 o], .int .u64 a] w (Gives w n f' o 0) := by
  have HB := Lib.hid hB
  have HA := Lib.hid hA
  have HT := Lib.hid hT
  have HS := Lib.hid hS
  clear hB hA hT hS
  have hid := Lib.hid (fun o1 o2 => below_alloc (below_alloc (Below.refl w.heap.size w) o1) o2)
  go_enter Tryd.func14, Tryd.ntmps14
  go_wp2_with fail
  go_loopw [6] (fun i wr => ∃ k : Nat, k ≤ t ∧ i = .int .i64 k ∧ Drawn0 ((w.alloc (.cells #[.int .i64 (n : Int), .int .u64 f, .int .u64 o] 24)).alloc (.cells #[.int .i64 0, .int .u64 0, .int .u64 0] 24)) wr)
    (fun i _ => t - (intOf i).toNat)
  case atStart => exact ⟨0, Nat.zero_le _, rfl, Drawn0.refl _⟩
  case round =>
    obtain ⟨k, hk, rfl, hd⟩ := hrel
    obtain ⟨⟨nd, rfl⟩⟩ := hd
    have hkn : (k : Int) < (n : Int) := by omega
    have hwk : IntKind.u64.wrap (k : Int) = (k : Int) := wrap_u k (by omega)
    by_cases hkt : k < t
    · have hne := HB.out k hkt
      go_wp2_with fail
      go_roundw
      case rel => exact ⟨k + 1, by omega, by go_num, ⟨⟨nd, rfl⟩⟩⟩
      case measure => simp [intOf]; omega
    · obtain rfl : k = t := by omega
      clear hkt
      have heq := HA.out
      go_wp2_with fail
      refine (HT.out _).mono ?_
      rintro e w2 ⟨rfl, ⟨nd2, rfl⟩⟩
      go_wp2_with fail
      refine (HS.out _).mono ?_
      rintro e w4 ⟨rfl, hb⟩
      have T4 := Lib.hid (((Two.new w (.int .i64 (n : Int)) (.int .u64 f) (.int .u64 o) (.int .i64 0) (.int .u64 0) (.int .u64 0) 24 24)).below (below_step (Drawn0.below ⟨⟨_, rfl⟩⟩) hb))
      have hid4 := Lib.hid (below_step (hid.out _ _) (below_step (Drawn0.below ⟨⟨_, rfl⟩⟩) hb))
      clear hb hid
      obtain ⟨c0, c1, c2, f0, f1, f2, d0, d1, d2, g0, g1, g2, lt⟩ := T4.out
      go_wp2_with fail
      exact bodyPost_ret (v := .tuple #[.agg #[.int .i64 (n : Int), .int .u64 f', .int .u64 o], .int .i64 0]) (by simp [results, Tryd.results14, go_sem, d0, d1, d2, lt]) rfl
          ⟨rfl, (((((hid4.out.setCell (by simp) _).setCell (by simp) _).setCell (by simp) _).setCell (by simp) _))⟩
end Go.Proofs.YtjalglcmpnjeoaaDoor.SAsidAll
