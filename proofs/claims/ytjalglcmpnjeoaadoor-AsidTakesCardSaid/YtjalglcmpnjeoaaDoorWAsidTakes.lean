/- AsidTakes, the walk, over the contracts of what it calls. -/
import Derived.Test.YtjalglcmpnjeoaaDoorRAsidP
import Derived.Deep.LoopGhost
import Derived.Deep.RegionHeld3
import Derived.WalkSpells
set_option linter.unusedVariables false
set_option linter.unusedSimpArgs false
namespace Go.Proofs.YtjalglcmpnjeoaaDoor.SAsidTakes
open Go.RowKit Go.Proofs.YtjalglcmpnjeoaaDoorW.PrintWords Go.Proofs.YtjalglcmpnjeoaaDoor.Bits Go.Proofs.YtjalglcmpnjeoaaDoor.Pop Go.Proofs.YtjalglcmpnjeoaaDoor.SAsidAll

/-- Is a number taken, of n numbers whose free ones are g? -/
def tk (n g j : Nat) : Bool := decide (1 ≤ j ∧ j ≤ n) && !g.testBit (j - 1)
/-- Was a number ever taken? -/
def ow (o j : Nat) : Bool := decide (1 ≤ j) && o.testBit (j - 1)
/-- The law's own memory: the numbers (block B), what it has noted (blocks B + 1, B + 2). -/
structure St (w : World) (B : Nat) (n g o : Int) (T O : Nat → Bool) (wr : World) : Prop where
  c0 : wr.cell? ⟨B, 0, none⟩ = some (.int .i64 n)
  c1 : wr.cell? ⟨B, 1, none⟩ = some (.int .u64 g)
  c2 : wr.cell? ⟨B, 2, none⟩ = some (.int .u64 o)
  f0 : wr.frozen? ⟨B, 0, none⟩ = false
  f1 : wr.frozen? ⟨B, 1, none⟩ = false
  f2 : wr.frozen? ⟨B, 2, none⟩ = false
  t : ∀ j, j < 17 → wr.cell? ⟨B + 1, j, none⟩ = some (.bool (T j))
  u : ∀ j, j < 17 → wr.frozen? ⟨B + 1, j, none⟩ = false
  v : ∀ j, j < 17 → wr.cell? ⟨B + 1 + 1, j, none⟩ = some (.bool (O j))
  x : ∀ j, j < 17 → wr.frozen? ⟨B + 1 + 1, j, none⟩ = false
  lt : B + 2 < wr.heap.size
  below : Below w.heap.size w wr
  wB : w.heap.size ≤ B
theorem St.on {w : World} {B : Nat} {n g o : Int} {T O : Nat → Bool} {wr w1 : World} (h : St w B n g o T O wr) (hb : Below wr.heap.size wr w1) : St w B n g o T O w1 := by
  have l2 := h.lt
  have l0 : B < wr.heap.size := by omega
  have l1 : B + 1 < wr.heap.size := by omega
  exact ⟨(hb.cell (p := ⟨B, 0, none⟩) l0).trans h.c0, (hb.cell (p := ⟨B, 1, none⟩) l0).trans h.c1, (hb.cell (p := ⟨B, 2, none⟩) l0).trans h.c2,
    (hb.frozen (p := ⟨B, 0, none⟩) l0).trans h.f0, (hb.frozen (p := ⟨B, 1, none⟩) l0).trans h.f1, (hb.frozen (p := ⟨B, 2, none⟩) l0).trans h.f2,
    fun j hj => (hb.cell (p := ⟨B + 1, j, none⟩) l1).trans (h.t j hj), fun j hj => (hb.frozen (p := ⟨B + 1, j, none⟩) l1).trans (h.u j hj),
    fun j hj => (hb.cell (p := ⟨B + 1 + 1, j, none⟩) l2).trans (h.v j hj), fun j hj => (hb.frozen (p := ⟨B + 1 + 1, j, none⟩) l2).trans (h.x j hj), Nat.lt_of_lt_of_le h.lt hb.size,
    below_step h.below hb, h.wB⟩
theorem St.alloc {w : World} {B : Nat} {n g o : Int} {T O : Nat → Bool} {wr : World} (h : St w B n g o T O wr) (y : Obj) : St w B n g o T O (wr.alloc y) := h.on (below_alloc (Below.refl _ _) y)
theorem St.set0 {w : World} {B : Nat} {n g o : Int} {T O : Nat → Bool} {wr : World} (h : St w B n g o T O wr) (y : Int) : St w B y g o T O (wr.setCell ⟨B, 0, none⟩ (.int .i64 y)) := by
  obtain ⟨c0, c1, c2, f0, f1, f2, t, u, v, x, lt, below, wB⟩ := h
  refine ⟨?_, ?_, ?_, ?_, ?_, ?_, fun j hj => ?_, fun j hj => ?_, fun j hj => ?_, fun j hj => ?_, ?_, below.setCell (by simpa using wB) _, wB⟩
  all_goals first | (have tj := t j hj; have uj := u j hj; have vj := v j hj; have xj := x j hj; clear t u v x; simp [go_sem, *]; done) | (clear t u v x; simp [go_sem, *]; done)
theorem St.set1 {w : World} {B : Nat} {n g o : Int} {T O : Nat → Bool} {wr : World} (h : St w B n g o T O wr) (y : Int) : St w B n y o T O (wr.setCell ⟨B, 1, none⟩ (.int .u64 y)) := by
  obtain ⟨c0, c1, c2, f0, f1, f2, t, u, v, x, lt, below, wB⟩ := h
  refine ⟨?_, ?_, ?_, ?_, ?_, ?_, fun j hj => ?_, fun j hj => ?_, fun j hj => ?_, fun j hj => ?_, ?_, below.setCell (by simpa using wB) _, wB⟩
  all_goals first | (have tj := t j hj; have uj := u j hj; have vj := v j hj; have xj := x j hj; clear t u v x; simp [go_sem, *]; done) | (clear t u v x; simp [go_sem, *]; done)
theorem St.set2 {w : World} {B : Nat} {n g o : Int} {T O : Nat → Bool} {wr : World} (h : St w B n g o T O wr) (y : Int) : St w B n g y T O (wr.setCell ⟨B, 2, none⟩ (.int .u64 y)) := by
  obtain ⟨c0, c1, c2, f0, f1, f2, t, u, v, x, lt, below, wB⟩ := h
  refine ⟨?_, ?_, ?_, ?_, ?_, ?_, fun j hj => ?_, fun j hj => ?_, fun j hj => ?_, fun j hj => ?_, ?_, below.setCell (by simpa using wB) _, wB⟩
  all_goals first | (have tj := t j hj; have uj := u j hj; have vj := v j hj; have xj := x j hj; clear t u v x; simp [go_sem, *]; done) | (clear t u v x; simp [go_sem, *]; done)
theorem St.setT {w : World} {B : Nat} {n g o : Int} {T O : Nat → Bool} {wr : World} (h : St w B n g o T O wr) (i : Nat) (hi : i < 17) (y : Bool) : St w B n g o (fun j => if j = i then y else T j) O (wr.setCell ⟨B + 1, i, none⟩ (.bool y)) := by
  obtain ⟨c0, c1, c2, f0, f1, f2, t, u, v, x, lt, below, wB⟩ := h
  refine ⟨?_, ?_, ?_, ?_, ?_, ?_, fun j hj => ?_, fun j hj => ?_, fun j hj => ?_, fun j hj => ?_, ?_, below.setCell (by simp; omega) _, wB⟩
  all_goals first
    | (have ti := t i hi; have ui := u i hi; have vi := v i hi; have xi := x i hi; have tj := t j hj; have uj := u j hj; have vj := v j hj; have xj := x j hj; clear t u v x; by_cases e : j = i <;> simp [go_sem, *]; done)
    | (have ti := t i hi; have ui := u i hi; have vi := v i hi; have xi := x i hi; clear t u v x; simp [go_sem, *]; done)
theorem St.setO {w : World} {B : Nat} {n g o : Int} {T O : Nat → Bool} {wr : World} (h : St w B n g o T O wr) (i : Nat) (hi : i < 17) (y : Bool) : St w B n g o T (fun j => if j = i then y else O j) (wr.setCell ⟨B + 1 + 1, i, none⟩ (.bool y)) := by
  obtain ⟨c0, c1, c2, f0, f1, f2, t, u, v, x, lt, below, wB⟩ := h
  refine ⟨?_, ?_, ?_, ?_, ?_, ?_, fun j hj => ?_, fun j hj => ?_, fun j hj => ?_, fun j hj => ?_, ?_, below.setCell (by simp; omega) _, wB⟩
  all_goals first
    | (have ti := t i hi; have ui := u i hi; have vi := v i hi; have xi := x i hi; have tj := t j hj; have uj := u j hj; have vj := v j hj; have xj := x j hj; clear t u v x; by_cases e : j = i <;> simp [go_sem, *]; done)
    | (have ti := t i hi; have ui := u i hi; have vi := v i hi; have xi := x i hi; clear t u v x; simp [go_sem, *]; done)
theorem St.ld {w : World} {B : Nat} {n g o : Int} {T O : Nat → Bool} {wr : World} (h : St w B n g o T O wr) (hl : Ld w) : Ld wr := hl.below h.below
theorem St.congr {w : World} {B : Nat} {n g o : Int} {T T' O O' : Nat → Bool} {wr : World} (h : St w B n g o T O wr) (e : ∀ j, j < 17 → T j = T' j) (e' : ∀ j, j < 17 → O j = O' j) : St w B n g o T' O' wr := by
  obtain ⟨c0, c1, c2, f0, f1, f2, t, u, v, x, lt, below, wB⟩ := h
  exact ⟨c0, c1, c2, f0, f1, f2, fun j hj => by rw [← e j hj]; exact t j hj, u, fun j hj => by rw [← e' j hj]; exact v j hj, x, lt, below, wB⟩
theorem St.start {w w2 : World} (hb : Below w.heap.size w w2) (n g o : Int) (t u : TypeId) :
    St w w2.heap.size n g o (fun _ => false) (fun _ => false) (((w2.alloc (.cells #[.int .i64 n, .int .u64 g, .int .u64 o] t)).alloc (.cells (Array.replicate 17 (.bool false)) u)).alloc (.cells (Array.replicate 17 (.bool false)) u)) := by
  refine ⟨?_, ?_, ?_, ?_, ?_, ?_, fun j hj => ?_, fun j hj => ?_, fun j hj => ?_, fun j hj => ?_, ?_, below_alloc (below_alloc (below_alloc hb _) _) _, hb.size⟩
  all_goals simp [go_sem]
  all_goals rw [Array.getElem?_replicate, if_pos hj]
theorem Own3.newAt (w : World) (p : Addr) (v x y z : Value) (t : TypeId) : Own3 w.heap.size x y z ((w.setCell p v).alloc (.cells #[x, y, z] t)) := by
  have := Own3.new (w.setCell p v) x y z t
  rwa [show (w.setCell p v).heap.size = w.heap.size by simp] at this
theorem Own3.newAt2 (w : World) (p q : Addr) (v v' x y z : Value) (t : TypeId) : Own3 w.heap.size x y z (((w.setCell p v).setCell q v').alloc (.cells #[x, y, z] t)) := by
  have := Own3.new ((w.setCell p v).setCell q v') x y z t
  rwa [show ((w.setCell p v).setCell q v').heap.size = w.heap.size by simp] at this

/-! ### what a deed does to what is free -/
structure Good (n g o : Nat) : Prop where
  lt : g < 18446744073709551616
  lo : o < 18446744073709551616
  n1 : 1 ≤ n
  n16 : n ≤ 16
  low : ∀ j, n ≤ j → g.testBit j = false ∧ o.testBit j = false
theorem Good.start (n : Nat) (h1 : 1 ≤ n) (hn : n ≤ 16) : Good n (getN 18446744073709551615 0 n) 0 :=
  ⟨getN_lt _ _ _ (by decide), by decide, h1, hn, fun j hj => ⟨by rw [all_set n (by omega)]; simp; omega, by simp⟩⟩
theorem pc_start (n : Nat) (hn : n ≤ 16) : pc 64 (getN 18446744073709551615 0 n) = n := by
  rw [pc_all n (by omega) 64 _ (all_set n (by omega))]; omega
theorem tk_start (n : Nat) (hn : n ≤ 16) (j : Nat) : tk n (getN 18446744073709551615 0 n) j = false := by
  unfold tk; rw [all_set n (by omega)]; by_cases h : 1 ≤ j ∧ j ≤ n
  · rw [decide_eq_true h, decide_eq_true (show j - 1 < n by omega)]; rfl
  · rw [decide_eq_false h]; rfl
theorem ow_start (j : Nat) : ow 0 j = false := by unfold ow; simp
theorem Good.right {n g o : Nat} (h : Good n g o) : asid_Right.f (n : Int) (g : Int) (o : Int) = some true :=
  aright_yes n g o h.lt h.lo ⟨by have := h.n1; omega, by have := h.n16; omega, fun j hj => h.low j (by omega)⟩
/-- The least number that is free. -/
structure Least (n g o c : Nat) : Prop where
  one : 1 ≤ c
  lt : c ≤ n
  bit : g.testBit (c - 1) = true
  low : ∀ j, 1 ≤ j → j < c → tk n g j = true
theorem Good.least {n g o : Nat} (h : Good n g o) (h0 : g ≠ 0) : Least n g o (ctz g + 1) := by
  have hc := ctz_pos g h.lt h0
  rcases ctz_cases g with ⟨e, _⟩ | ⟨_, hbit, hl⟩
  · omega
  · have hcn : ctz g < n := by
      rcases Nat.lt_or_ge (ctz g) n with x | x
      · exact x
      · rw [(h.low _ x).1] at hbit; cases hbit
    exact ⟨by omega, by omega, hbit, fun j h1 hj => by unfold tk; rw [hl (j - 1) (by omega), decide_eq_true (show 1 ≤ j ∧ j ≤ n by omega)]; rfl⟩
theorem tk_bit {n g j : Nat} (h : g.testBit (j - 1) = true) : tk n g j = false := by unfold tk; rw [h]; simp
theorem tk_zero {n j : Nat} (h1 : 1 ≤ j) (h : j ≤ n) : tk n 0 j = true := by unfold tk; simp [h1, h]
theorem Good.set {n g o : Nat} (h : Good n g o) (i v : Nat) (hi : i < n) (hv : v < 2) : Good n (setN g i 1 v) o := by
  have := h.n16
  refine ⟨setN_lt _ _ _ _, h.lo, h.n1, h.n16, fun j hj => ⟨?_, (h.low j hj).2⟩⟩
  rw [bit_set g i v j h.lt (by omega) hv, if_neg (by omega)]; exact (h.low j hj).1
theorem Good.own {n g o : Nat} (h : Good n g o) (i : Nat) (hi : i < n) : Good n g (setN o i 1 1) := by
  have := h.n16
  refine ⟨h.lt, setN_lt _ _ _ _, h.n1, h.n16, fun j hj => ⟨(h.low j hj).1, ?_⟩⟩
  rw [bit_set o i 1 j h.lo (by omega) (by decide), if_neg (by omega)]; exact (h.low j hj).2
theorem Good.tk {n g o : Nat} (h : Good n g o) (c v : Nat) (h1 : 1 ≤ c) (hi : c ≤ n) (hv : v < 2) (j : Nat) : (if j = c then decide (v = 0) else tk n g j) = tk n (setN g (c - 1) 1 v) j := by
  have := h.n16
  unfold SAsidTakes.tk
  rw [bit_set g (c - 1) v (j - 1) h.lt (by omega) hv]
  by_cases e : j = c
  · rw [if_pos e, if_pos (by omega), decide_eq_true (show 1 ≤ j ∧ j ≤ n by omega)]
    have : v = 0 ∨ v = 1 := by omega
    rcases this with rfl | rfl <;> rfl
  · by_cases e0 : 1 ≤ j
    · rw [if_neg e, if_neg (by omega)]
    · rw [if_neg e, decide_eq_false (show ¬ (1 ≤ j ∧ j ≤ n) by omega)]; rfl
theorem Good.ow {n g o : Nat} (h : Good n g o) (c : Nat) (h1 : 1 ≤ c) (hi : c ≤ n) (j : Nat) : (if j = c then true else ow o j) = ow (setN o (c - 1) 1 1) j := by
  have := h.n16
  unfold SAsidTakes.ow
  rw [bit_set o (c - 1) 1 (j - 1) h.lo (by omega) (by decide)]
  by_cases e : j = c
  · rw [if_pos e, if_pos (by omega), decide_eq_true (show 1 ≤ j by omega)]; rfl
  · by_cases e0 : 1 ≤ j
    · rw [if_neg e, if_neg (by omega)]
    · rw [if_neg e, decide_eq_false e0]; rfl
theorem pc_le_n {n g o : Nat} (h : Good n g o) : pc 64 g ≤ n := by
  have e : pc 64 g = pc n g := by
    have := pc_above n g (64 - n) (fun j hj => (h.low j hj).1)
    rwa [show n + (64 - n) = 64 by have := h.n16; omega] at this
  rw [e]; exact pc_le n g
def Rel (w : World) (B len n : Nat) (ot i : Value) (wr : World) : Prop :=
  ∃ k g o m : Nat, k ≤ len ∧ i = .int .i64 (k : Int) ∧ ot = .int .i64 (m : Int) ∧ St w B n g o (tk n g) (ow o) wr ∧ Good n g o ∧ Hid (m + pc 64 g = n)
theorem Rel.start {w : World} {B len n : Nat} {wr : World} (h1 : 1 ≤ n) (hn : n ≤ 16) (S : St w B n ((getN 18446744073709551615 0 n : Nat) : Int) 0 (fun _ => false) (fun _ => false) wr) : Rel w B len n (.int .i64 0) (.int .i64 0) wr :=
  ⟨0, _, 0, 0, Nat.zero_le _, rfl, rfl, S.congr (fun j _ => (tk_start n hn j).symm) (fun j _ => (ow_start j).symm), Good.start n h1 hn, by show _ = _; rw [pc_start n hn]; omega⟩
-- THE WALK
set_option maxRecDepth 100000 in
set_option maxHeartbeats 8000000 in
theorem pos (bl off len cap n : Nat) (many : Int) (w : World) (hl : Ld w) (hm0 : 0 ≤ many) (hm1 : many ≤ 255) (h1 : 1 ≤ n) (hn16 : n ≤ 16) (hn : many % 16 = (n : Int) - 1) (hlen : len ≤ 200) (hbl : bl < w.heap.size)
    (hc : ∀ k, k < len → ∃ d : Int, 0 ≤ d ∧ d ≤ 255 ∧ w.cell? ⟨bl, off + k, none⟩ = some (.int .u8 d)) :
    Calls Tryd.prog 4 #[.int .u8 many, .slice (some ⟨bl, off, none⟩) len cap] w fun e w' => e = .returned (.bool true) ∧ Below w.heap.size w w' := by
  have hmk : ∀ w, (Instr.makeSlice 41 (.int .i64 17) (.int .i64 17)).run Tryd.prog w = .ok (.slice (some ⟨w.heap.size, 0, none⟩) 17 17) (w.alloc (.cells (Array.replicate 17 (.bool false)) 4)) := fun _ => by kernel_rfl
  have HC := Lib.hid hc
  clear hc
  have HL := Lib.hid hl
  have hid0 := Lib.hid (Below.refl w.heap.size w)
  have hnn : (1 : Int) + ((n : Int) - 1) = (n : Int) := by omega
  clear hl
  go_enter Tryd.func4, Tryd.ntmps4
  go_wp2_with fail
  refine (atlaslaw18_awake.calls true _ HL.out rfl).mono ?_
  rintro e w1 ⟨rfl, hb⟩
  have hid1 := Lib.hid hb
  clear hb hid0
  go_wp2_with fail
  clear hnn
  refine (asid_New.calls n _ _ _ _ _ (anew_yes n h1 hn16)).mono ?_
  rintro e w2 ⟨rfl, hb⟩
  have hid2 := Lib.hid (below_step hid1.out hb)
  clear hb hid1
  go_wp2_with fail
  have S0 := Lib.hid (St.start hid2.out n ((getN 18446744073709551615 0 n : Nat) : Int) 0 24 4)
  clear hmk hn hm0 hm1 hid2
  go_loopw [10, 11] (fun ot i wr => Rel w w2.heap.size len n ot i wr) (fun _ i _ => len - (intOf i).toNat)
  case atStart => exact Rel.start h1 hn16 S0.out
  case round =>
    obtain ⟨k, g, o, m, hk, rfl, rfl, S, G, hm⟩ := hrel
    clear S0
    have HS := Lib.hid S
    have HG := Lib.hid G
    have hmn : m ≤ n := by have := hm.out; omega
    clear S G
    by_cases hlt : k < len
    · obtain ⟨d, d0, d1, hcell⟩ := HC.out k hlt
      have hd := (HS.out.below.cell (p := ⟨bl, off + k, none⟩) hbl).trans hcell
      clear hcell
      rcases (show d % 2 = 0 ∨ d % 2 = 1 by omega) with h3 | h3
      · have c0 := HS.out.c0
        have c1 := HS.out.c1
        have c2 := HS.out.c2
        go_wp2_with fail
        clear c0 c1 c2 hd h3
        by_cases g0 : g = 0
        · have hsum : m + pc 64 g = n := hm.out
          have hT : asid_Take.f (n : Int) (g : Int) (o : Int) = some ((n : Int), (g : Int), (o : Int), 0, false, 9) := by
            unfold asid_Take.f; rw [if_pos (by simp; omega)]
          refine (asid_Take.calls _ _ _ _ _ _ _ _ _ _ (HS.out.ld HL.out) hT).mono ?_
          clear hT
          have hz := Lib.hid g0
          clear g0
          rintro e w3 ⟨rfl, hb⟩
          have S3 := Lib.hid ((HS.out.on hb).alloc (.cells #[.int .i64 (n : Int), .int .u64 (g : Int), .int .u64 (o : Int)] 24))
          have Q3 := Lib.hid (Own3.new w3 (.int .i64 (n : Int)) (.int .u64 (g : Int)) (.int .u64 (o : Int)) 24)
          clear hb HS
          go_wp2_with fail
          obtain ⟨n1, hn1⟩ : ∃ n1, n1 = n + 1 := ⟨_, rfl⟩
          go_loop [16] (fun i => ∃ q : Nat, 1 ≤ q ∧ q ≤ n1 ∧ i = .int .i64 (q : Int)) (fun i => n1 - (intOf i).toNat)
          case atStart => exact ⟨1, by omega, by omega, by go_num⟩
          case round =>
            obtain ⟨q, hq1, hq, rfl⟩ := hrel
            by_cases hqc : q < n1
            · have hqn : (q : Int) ≤ (n : Int) := by omega
              have hq17 : (q : Int) < 17 := by omega
              have tq := (S3.out.t q (by omega)).trans (by rw [show tk n g q = true from by rw [hz.out]; exact tk_zero hq1 (by omega)])
              go_wp2_with fail
              go_round
              case rel => exact ⟨q + 1, by omega, by omega, by go_num⟩
              case measure => simp [intOf]; omega
            · obtain rfl : n1 = q := by omega
              clear hqc hq hq1
              have hnn : decide ((n1 : Int) ≤ (n : Int)) = false := decide_eq_false (by omega)
              have hnn' : (n : Int) < (n1 : Int) := by omega
              have hnn3 : ¬ n1 ≤ n := by omega
              have hnn4 : decide (n1 ≤ n) = false := decide_eq_false hnn3
              have hn1' := Lib.hid hn1
              clear hn1
              have z4 := S3.out.lt
              have S4 := S3
              have Q4 := Q3
              clear S3 Q3
              go_upto_region 22 with (fail)
              clear hnn hnn' hnn3 hnn4
              generalize World.alloc _ _ = W at S4 Q4 z4 ⊢
              have c0 := S4.out.c0
              have c1 := S4.out.c1
              have c2 := S4.out.c2
              have f0 := S4.out.f0
              have f1 := S4.out.f1
              have f2 := S4.out.f2
              have q0 := Q4.out.c0
              have q1 := Q4.out.c1
              have q2 := Q4.out.c2
              go_upto_region 31 with (fail)
              clear c0 c1 c2 f0 f1 f2 q0 q1 q2 Q4 z4
              have S5 := Lib.hid (((S4.out.set0 n).set1 g).set2 o)
              clear S4
              generalize World.setCell (World.setCell (World.setCell _ _ _) _ _) _ _ = W2 at S5 ⊢
              have c0 := S5.out.c0
              have c1 := S5.out.c1
              have c2 := S5.out.c2
              go_wp2_with fail
              clear c0 c1 c2
              obtain ⟨p, hp⟩ : ∃ p, p = pc 64 g := ⟨_, rfl⟩
              refine (asid_Free.calls _ _ _ _ _ (free_f n o g HG.out.lt)).mono ?_
              rw [← hp] at hsum ⊢
              have HP := Lib.hid hp
              clear hp
              rintro e w4 ⟨rfl, hb⟩
              have hpe : ((p : Int) != (n : Int) - (m : Int)) = false := by simp; omega
              have hsm := Lib.hid hsum
              clear hsum
              have S6 := Lib.hid (S5.out.on hb)
              clear hb S5
              have c0 := S6.out.c0
              have c1 := S6.out.c1
              have c2 := S6.out.c2
              go_wp2_with fail
              clear c0 c1 c2
              refine (asid_Right.calls _ _ _ _ _ HG.out.right).mono ?_
              rintro e w5 ⟨rfl, hb⟩
              have S7 := Lib.hid (S6.out.on hb)
              clear hb S6
              go_wp2_with fail
              go_roundw
              case rel => exact ⟨k + 1, g, o, m, by omega, by go_num, by go_num, S7.out, HG.out, by show _ = _; rw [← HP.out]; exact hsm.out⟩
              case measure => simp [intOf]; omega
        · have L := HG.out.least g0
          obtain ⟨c, hcc⟩ : ∃ c, c = ctz g + 1 := ⟨_, rfl⟩
          obtain ⟨ws, hws⟩ : ∃ ws, ws = o.testBit (ctz g) := ⟨_, rfl⟩
          have e1 : ctz g = c - 1 := by omega
          have hT := take_f n g o HG.out.lt HG.out.lo g0
          rw [← hcc, ← hws, e1] at hT
          rw [e1] at hws
          rw [← hcc] at L
          refine (asid_Take.calls _ _ _ _ _ _ _ _ _ _ (HS.out.ld HL.out) hT).mono ?_
          have hc1 := L.one
          have hcn := L.lt
          have how : ow o c = ws := by unfold ow; rw [decide_eq_true hc1, hws]; rfl
          have G' := Lib.hid ((HG.out.set (c - 1) 0 (by omega) (by decide)).own (c - 1) (by omega))
          have htk := Lib.hid (HG.out.tk c 0 hc1 hcn (by decide))
          have how2 := Lib.hid (HG.out.ow c hc1 hcn)
          have hps := Lib.hid (pc_sub g (c - 1) HG.out.lt (by omega) L.bit)
          have HLs := Lib.hid L
          have HOW := Lib.hid how
          clear L hcc g0 hT e1 hws how
          generalize setN g (c - 1) 1 0 = g' at *
          generalize setN o (c - 1) 1 1 = o' at *
          rintro e w3 ⟨rfl, hb⟩
          have S3 := Lib.hid (HS.out.on hb)
          have l3 := (HS.out.on hb).lt
          have l31 : w2.heap.size + 1 < w3.heap.size := by omega
          have l32 : w2.heap.size + 1 + 1 < w3.heap.size := by omega
          clear hb HS
          go_wp2_with fail
          go_loop [16] (fun i => ∃ q : Nat, 1 ≤ q ∧ q ≤ c ∧ i = .int .i64 (q : Int)) (fun i => c - (intOf i).toNat)
          case atStart => exact ⟨1, by omega, by omega, by go_num⟩
          case round =>
            obtain ⟨q, hq1, hq, rfl⟩ := hrel
            by_cases hqc : q < c
            · have hqn : (q : Int) ≤ (n : Int) := by omega
              have hq17 : (q : Int) < 17 := by omega
              have tq := ((S3.out.alloc (.cells #[.int .i64 (n : Int), .int .u64 (g' : Int), .int .u64 (o' : Int)] 24)).t q (by omega)).trans (by rw [show tk n g q = true from HLs.out.low q hq1 hqc])
              go_wp2_with fail
              go_round
              case rel => exact ⟨q + 1, by omega, by omega, by go_num⟩
              case measure => simp [intOf]; omega
            · obtain rfl : c = q := by omega
              clear hqc hq hq1
              have hqn : (c : Int) ≤ (n : Int) := by omega
              have hq17 : (c : Int) < 17 := by omega
              have tq := ((S3.out.alloc (.cells #[.int .i64 (n : Int), .int .u64 (g' : Int), .int .u64 (o' : Int)] 24)).t c (by omega)).trans (by rw [show tk n g c = false from tk_bit HLs.out.bit])
              have uq := (S3.out.alloc (.cells #[.int .i64 (n : Int), .int .u64 (g' : Int), .int .u64 (o' : Int)] 24)).u c (by omega)
              have vq := ((S3.out.alloc (.cells #[.int .i64 (n : Int), .int .u64 (g' : Int), .int .u64 (o' : Int)] 24)).v c (by omega)).trans (by rw [HOW.out])
              have xq := (S3.out.alloc (.cells #[.int .i64 (n : Int), .int .u64 (g' : Int), .int .u64 (o' : Int)] 24)).x c (by omega)
              have tq3 := S3.out.t c (by omega)
              have uq3 := S3.out.u c (by omega)
              have vq3 := S3.out.v c (by omega)
              have xq3 := S3.out.x c (by omega)
              go_upto_region 19 with (fail)
              clear tq uq vq xq
              go_upto_region 22 with (fail)
              have S4 := Lib.hid ((((S3.out.setT c (by omega) true).setO c (by omega) true).alloc (.cells #[.int .i64 (n : Int), .int .u64 (g' : Int), .int .u64 (o' : Int)] 24)).congr (T' := tk n g') (O' := ow o') (fun j _ => by simpa using htk.out j) (fun j _ => by simpa using how2.out j))
              have Q4 := Lib.hid (Own3.newAt2 w3 ⟨w2.heap.size + 1, c, none⟩ ⟨w2.heap.size + 1 + 1, c, none⟩ (.bool true) (.bool true) (.int .i64 (n : Int)) (.int .u64 (g' : Int)) (.int .u64 (o' : Int)) 24)
              have z4 := S4.out.lt
              have z5 : w2.heap.size < w3.heap.size := by omega
              clear S3 tq3 uq3 vq3 xq3 htk how2
              generalize World.alloc (World.setCell (World.setCell _ _ _) _ _) _ = W at S4 Q4 z4 ⊢
              have hsum : (m + 1) + pc 64 g' = n := by have := hm.out; have := hps.out; omega
              have hmn1 : m + 1 ≤ n := by omega
              have c0 := S4.out.c0
              have c1 := S4.out.c1
              have c2 := S4.out.c2
              have f0 := S4.out.f0
              have f1 := S4.out.f1
              have f2 := S4.out.f2
              have q0 := Q4.out.c0
              have q1 := Q4.out.c1
              have q2 := Q4.out.c2
              go_upto_region 31 with (fail)
              clear c0 c1 c2 f0 f1 f2 q0 q1 q2 Q4 z4
              have S5 := Lib.hid (((S4.out.set0 n).set1 g').set2 o')
              clear S4
              generalize World.setCell (World.setCell (World.setCell _ _ _) _ _) _ _ = W2 at S5 ⊢
              have c0 := S5.out.c0
              have c1 := S5.out.c1
              have c2 := S5.out.c2
              go_wp2_with fail
              clear c0 c1 c2
              obtain ⟨p, hp⟩ : ∃ p, p = pc 64 g' := ⟨_, rfl⟩
              refine (asid_Free.calls _ _ _ _ _ (free_f n o' g' G'.out.lt)).mono ?_
              rw [← hp] at hsum ⊢
              have HP := Lib.hid hp
              clear hp
              rintro e w4 ⟨rfl, hb⟩
              have hpe : ((p : Int) != (n : Int) - ((m : Int) + 1)) = false := by simp; omega
              have hsm := Lib.hid hsum
              clear hsum
              have S6 := Lib.hid (S5.out.on hb)
              clear hb S5
              have c0 := S6.out.c0
              have c1 := S6.out.c1
              have c2 := S6.out.c2
              go_wp2_with fail
              clear c0 c1 c2
              refine (asid_Right.calls _ _ _ _ _ G'.out.right).mono ?_
              rintro e w5 ⟨rfl, hb⟩
              have S7 := Lib.hid (S6.out.on hb)
              clear hb S6
              go_wp2_with fail
              go_roundw
              case rel => exact ⟨k + 1, g', o', m + 1, by omega, by go_num, by go_num, S7.out, G'.out, by show _ = _; rw [← HP.out]; exact hsm.out⟩
              case measure => simp [intOf]; omega
      · obtain ⟨u, hu⟩ : ∃ u : Nat, d / 2 % 17 = (u : Int) := ⟨(d / 2 % 17).toNat, by omega⟩
        have hu17 : u < 17 := by omega
        have hu17' : (u : Int) < 17 := by omega
        have c0 := HS.out.c0
        have c1 := HS.out.c1
        have c2 := HS.out.c2
        go_wp2_with fail
        clear c0 c1 c2 hd h3
        have hgl := HG.out.lt
        have hsum0 : m + pc 64 g = n := hm.out
        by_cases hT : tk n g u = true
        · have hx : (1 ≤ u ∧ u ≤ n) ∧ g.testBit (u - 1) = false := by
            unfold tk at hT
            simp only [Bool.and_eq_true, decide_eq_true_eq, Bool.not_eq_true'] at hT
            exact hT
          obtain ⟨⟨u1, un⟩, hb0⟩ := hx
          have h : asid_Give.f (n : Int) (g : Int) (o : Int) (u : Int) = some ((n : Int), ((setN g (u - 1) 1 1 : Nat) : Int), (o : Int), 0) := by
            have := give_f (n : Int) g (o : Int) (u - 1) (by omega) hgl (by omega) hb0
            rwa [show u - 1 + 1 = u by omega] at this
          have G' := Lib.hid (HG.out.set (u - 1) 1 (by omega) (by decide))
          have htk := Lib.hid (HG.out.tk u 1 u1 un (by decide))
          have hps := pc_add g (u - 1) hgl (by omega) hb0
          have hle := pc_le_n G'.out
          have hsum : (m - 1) + pc 64 (setN g (u - 1) 1 1) = n := by omega
          have hm1 : 1 ≤ m := by omega
          clear hb0 hps hle hsum0 hgl
          generalize setN g (u - 1) 1 1 = g' at *
          refine (asid_Give.calls _ _ _ _ _ _ _ _ _ h).mono ?_
          clear h
          rintro e w3 ⟨rfl, hb⟩
          have S3 := Lib.hid (HS.out.on hb)
          have l3 := (HS.out.on hb).lt
          have l31 : w2.heap.size + 1 < w3.heap.size := by omega
          have l32 : w2.heap.size + 1 + 1 < w3.heap.size := by omega
          clear hb HS
          have tq := ((S3.out.alloc (.cells #[.int .i64 (n : Int), .int .u64 (g' : Int), .int .u64 (o : Int)] 24)).t u (by omega)).trans (by rw [hT])
          have uq := (S3.out.alloc (.cells #[.int .i64 (n : Int), .int .u64 (g' : Int), .int .u64 (o : Int)] 24)).u u (by omega)
          clear hT
          go_upto_region 30 with (fail)
          have S4 := Lib.hid (((S3.out.setT u (by omega) false).alloc (.cells #[.int .i64 (n : Int), .int .u64 (g' : Int), .int .u64 (o : Int)] 24)).congr (T' := tk n g') (O' := ow o) (fun j _ => by simpa using htk.out j) (fun _ _ => rfl))
          have Q4 := Lib.hid (Own3.newAt w3 ⟨w2.heap.size + 1, u, none⟩ (.bool false) (.int .i64 (n : Int)) (.int .u64 (g' : Int)) (.int .u64 (o : Int)) 24)
          have z4 := S4.out.lt
          have z5 : w2.heap.size < w3.heap.size := by omega
          clear S3 tq uq htk hu
          generalize World.alloc (World.setCell _ _ _) _ = W at S4 Q4 z4 ⊢
          have c0 := S4.out.c0
          have c1 := S4.out.c1
          have c2 := S4.out.c2
          have f0 := S4.out.f0
          have f1 := S4.out.f1
          have f2 := S4.out.f2
          have q0 := Q4.out.c0
          have q1 := Q4.out.c1
          have q2 := Q4.out.c2
          go_upto_region 31 with (fail)
          clear c0 c1 c2 f0 f1 f2 q0 q1 q2 Q4 z4
          have S5 := Lib.hid (((S4.out.set0 n).set1 g').set2 o)
          clear S4
          generalize World.setCell (World.setCell (World.setCell _ _ _) _ _) _ _ = W2 at S5 ⊢
          have c0 := S5.out.c0
          have c1 := S5.out.c1
          have c2 := S5.out.c2
          go_wp2_with fail
          clear c0 c1 c2
          obtain ⟨p, hp⟩ : ∃ p, p = pc 64 g' := ⟨_, rfl⟩
          refine (asid_Free.calls _ _ _ _ _ (free_f n o g' G'.out.lt)).mono ?_
          rw [← hp] at hsum ⊢
          have HP := Lib.hid hp
          clear hp
          rintro e w4 ⟨rfl, hb⟩
          have hpe : ((p : Int) != (n : Int) - ((m : Int) - 1)) = false := by simp; omega
          have hsm := Lib.hid hsum
          clear hsum
          have S6 := Lib.hid (S5.out.on hb)
          clear hb S5
          have c0 := S6.out.c0
          have c1 := S6.out.c1
          have c2 := S6.out.c2
          go_wp2_with fail
          clear c0 c1 c2
          refine (asid_Right.calls _ _ _ _ _ G'.out.right).mono ?_
          rintro e w5 ⟨rfl, hb⟩
          have S7 := Lib.hid (S6.out.on hb)
          clear hb S6
          go_wp2_with fail
          go_roundw
          case rel => exact ⟨k + 1, g', o, m - 1, by omega, by go_num, by go_num, S7.out, G'.out, by show _ = _; rw [← HP.out]; exact hsm.out⟩
          case measure => simp [intOf]; omega
        · have hT' : tk n g u = false := by cases hh : tk n g u <;> simp_all
          have h : asid_Give.f (n : Int) (g : Int) (o : Int) (u : Int) = some ((n : Int), (g : Int), (o : Int), 1) := by
            have hn64 : (n : Int) ≤ 64 := by omega
            unfold asid_Give.f
            rw [if_pos ⟨by omega, by omega, by omega, by omega, by omega, by omega⟩, if_pos]
            rw [show (((u : Int) - 1).toNat) = u - 1 by omega, Int.toNat_natCast]
            by_cases c : 1 ≤ u ∧ u ≤ n
            · have hb : g.testBit (u - 1) = true := by
                unfold tk at hT'
                rw [decide_eq_true c] at hT'
                simpa using hT'
              exact .inr (.inr (by rw [get1 g (u - 1) hgl (by omega), hb]; rfl))
            · omega
          clear hgl hT
          have hsum := hsum0
          clear hsum0
          refine (asid_Give.calls _ _ _ _ _ _ _ _ _ h).mono ?_
          clear h
          rintro e w3 ⟨rfl, hb⟩
          have S4 := Lib.hid ((HS.out.on hb).alloc (.cells #[.int .i64 (n : Int), .int .u64 (g : Int), .int .u64 (o : Int)] 24))
          have Q4 := Lib.hid (Own3.new w3 (.int .i64 (n : Int)) (.int .u64 (g : Int)) (.int .u64 (o : Int)) 24)
          clear hb HS
          have tq := (S4.out.t u (by omega)).trans (by rw [hT'])
          have z4 := S4.out.lt
          clear hT'
          go_upto_region 30 with (fail)
          clear tq hu
          generalize World.alloc _ _ = W at S4 Q4 z4 ⊢
          have c0 := S4.out.c0
          have c1 := S4.out.c1
          have c2 := S4.out.c2
          have f0 := S4.out.f0
          have f1 := S4.out.f1
          have f2 := S4.out.f2
          have q0 := Q4.out.c0
          have q1 := Q4.out.c1
          have q2 := Q4.out.c2
          go_upto_region 31 with (fail)
          clear c0 c1 c2 f0 f1 f2 q0 q1 q2 Q4 z4
          have S5 := Lib.hid (((S4.out.set0 n).set1 g).set2 o)
          clear S4
          generalize World.setCell (World.setCell (World.setCell _ _ _) _ _) _ _ = W2 at S5 ⊢
          have c0 := S5.out.c0
          have c1 := S5.out.c1
          have c2 := S5.out.c2
          go_wp2_with fail
          clear c0 c1 c2
          obtain ⟨p, hp⟩ : ∃ p, p = pc 64 g := ⟨_, rfl⟩
          refine (asid_Free.calls _ _ _ _ _ (free_f n o g HG.out.lt)).mono ?_
          rw [← hp] at hsum ⊢
          have HP := Lib.hid hp
          clear hp
          rintro e w4 ⟨rfl, hb⟩
          have hpe : ((p : Int) != (n : Int) - (m : Int)) = false := by simp; omega
          have hsm := Lib.hid hsum
          clear hsum
          have S6 := Lib.hid (S5.out.on hb)
          clear hb S5
          have c0 := S6.out.c0
          have c1 := S6.out.c1
          have c2 := S6.out.c2
          go_wp2_with fail
          clear c0 c1 c2
          refine (asid_Right.calls _ _ _ _ _ HG.out.right).mono ?_
          rintro e w5 ⟨rfl, hb⟩
          have S7 := Lib.hid (S6.out.on hb)
          clear hb S6
          go_wp2_with fail
          go_roundw
          case rel => exact ⟨k + 1, g, o, m, by omega, by go_num, by go_num, S7.out, HG.out, by show _ = _; rw [← HP.out]; exact hsm.out⟩
          case measure => simp [intOf]; omega
    · have hbl := Lib.hid HS.out.below
      clear HS
      go_wp2_with fail
      go_ret
      exact ⟨rfl, hbl.out⟩
-- THE WALK
set_option maxRecDepth 100000 in
set_option maxHeartbeats 8000000 in
theorem zero (len cap n : Nat) (many : Int) (w : World) (hl : Ld w) (hm0 : 0 ≤ many) (hm1 : many ≤ 255) (h1 : 1 ≤ n) (hn16 : n ≤ 16) (hn : many % 16 = (n : Int) - 1) (hlen : len ≤ 200) (a : Option Addr) (hz : len = 0) :
    Calls Tryd.prog 4 #[.int .u8 many, .slice a len cap] w fun e w' => e = .returned (.bool true) ∧ Below w.heap.size w w' := by
  have hmk : ∀ w, (Instr.makeSlice 41 (.int .i64 17) (.int .i64 17)).run Tryd.prog w = .ok (.slice (some ⟨w.heap.size, 0, none⟩) 17 17) (w.alloc (.cells (Array.replicate 17 (.bool false)) 4)) := fun _ => by kernel_rfl
  have HL := Lib.hid hl
  have hid0 := Lib.hid (Below.refl w.heap.size w)
  have hnn : (1 : Int) + ((n : Int) - 1) = (n : Int) := by omega
  clear hl
  go_enter Tryd.func4, Tryd.ntmps4
  go_wp2_with fail
  refine (atlaslaw18_awake.calls true _ HL.out rfl).mono ?_
  rintro e w1 ⟨rfl, hb⟩
  have hid1 := Lib.hid hb
  clear hb hid0
  go_wp2_with fail
  clear hnn
  refine (asid_New.calls n _ _ _ _ _ (anew_yes n h1 hn16)).mono ?_
  rintro e w2 ⟨rfl, hb⟩
  have hid2 := Lib.hid (below_step hid1.out hb)
  clear hb hid1
  go_wp2_with fail
  have S0 := Lib.hid (St.start hid2.out n ((getN 18446744073709551615 0 n : Nat) : Int) 0 24 4)
  clear hmk hn hm0 hm1 hid2
  go_loopw [10, 11] (fun ot i wr => Rel w w2.heap.size len n ot i wr) (fun _ i _ => len - (intOf i).toNat)
  case atStart => exact Rel.start h1 hn16 S0.out
  case round =>
    obtain ⟨k, g, o, m, hk, rfl, rfl, S, G, hm⟩ := hrel
    clear S0
    have HS := Lib.hid S
    have HG := Lib.hid G
    have hmn : m ≤ n := by have := hm.out; omega
    clear S G
    obtain rfl : len = 0 := hz
    obtain rfl : k = 0 := by omega
    have hbl := Lib.hid HS.out.below
    clear HS
    go_wp2_with fail
    go_ret
    exact ⟨rfl, hbl.out⟩
end Go.Proofs.YtjalglcmpnjeoaaDoor.SAsidTakes
