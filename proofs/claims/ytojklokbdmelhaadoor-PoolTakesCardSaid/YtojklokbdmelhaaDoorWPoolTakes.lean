/- PoolTakes, the walk, over the contracts of what it calls. -/
import Derived.Test.YtojklokbdmelhaaDoorRPoolP
import Derived.Deep.LoopGhost
import Derived.WalkSpells
import Derived.Deep.RegionHeld3
set_option linter.unusedVariables false
set_option linter.unusedSimpArgs false
namespace Go.Proofs.YtojklokbdmelhaaDoor.SPoolTakes
open Go.RowKit Go.Proofs.YtojklokbdmelhaaDoorW.PrintWords Go.Proofs.YtojklokbdmelhaaDoor.Bits Go.Proofs.YtojklokbdmelhaaDoor.Pop Go.Proofs.YtojklokbdmelhaaDoor.SPoolAll

/-- Is a frame taken, of a pool of n whose free frames are g? -/
def tk (n g j : Nat) : Bool := decide (j < n) && !g.testBit j
/-- The law's own memory: the pool (block B), what it has noted (block B + 1). -/
structure St (w : World) (B : Nat) (b n g : Int) (T : Nat → Bool) (wr : World) : Prop where
  c0 : wr.cell? ⟨B, 0, none⟩ = some (.int .u64 b)
  c1 : wr.cell? ⟨B, 1, none⟩ = some (.int .i64 n)
  c2 : wr.cell? ⟨B, 2, none⟩ = some (.int .u64 g)
  f0 : wr.frozen? ⟨B, 0, none⟩ = false
  f1 : wr.frozen? ⟨B, 1, none⟩ = false
  f2 : wr.frozen? ⟨B, 2, none⟩ = false
  t : ∀ j, j < 64 → wr.cell? ⟨B + 1, j, none⟩ = some (.bool (T j))
  u : ∀ j, j < 64 → wr.frozen? ⟨B + 1, j, none⟩ = false
  lt : B + 1 < wr.heap.size
  below : Below w.heap.size w wr
  wB : w.heap.size ≤ B
theorem St.on {w : World} {B : Nat} {b n g : Int} {T : Nat → Bool} {wr w1 : World} (h : St w B b n g T wr) (hb : Below wr.heap.size wr w1) : St w B b n g T w1 := by
  have l0 : B < wr.heap.size := by have := h.lt; omega
  exact ⟨(hb.cell (p := ⟨B, 0, none⟩) l0).trans h.c0, (hb.cell (p := ⟨B, 1, none⟩) l0).trans h.c1, (hb.cell (p := ⟨B, 2, none⟩) l0).trans h.c2,
    (hb.frozen (p := ⟨B, 0, none⟩) l0).trans h.f0, (hb.frozen (p := ⟨B, 1, none⟩) l0).trans h.f1, (hb.frozen (p := ⟨B, 2, none⟩) l0).trans h.f2,
    fun j hj => (hb.cell (p := ⟨B + 1, j, none⟩) h.lt).trans (h.t j hj), fun j hj => (hb.frozen (p := ⟨B + 1, j, none⟩) h.lt).trans (h.u j hj), Nat.lt_of_lt_of_le h.lt hb.size,
    below_step h.below hb, h.wB⟩
theorem St.alloc {w : World} {B : Nat} {b n g : Int} {T : Nat → Bool} {wr : World} (h : St w B b n g T wr) (o : Obj) : St w B b n g T (wr.alloc o) := h.on (below_alloc (Below.refl _ _) o)
theorem St.set0 {w : World} {B : Nat} {b n g : Int} {T : Nat → Bool} {wr : World} (h : St w B b n g T wr) (v : Int) : St w B v n g T (wr.setCell ⟨B, 0, none⟩ (.int .u64 v)) := by
  obtain ⟨c0, c1, c2, f0, f1, f2, t, u, lt, below, wB⟩ := h
  refine ⟨?_, ?_, ?_, ?_, ?_, ?_, fun j hj => ?_, fun j hj => ?_, ?_, below.setCell (by simpa using wB) _, wB⟩
  all_goals first | (have tj := t j hj; have uj := u j hj; clear t u; simp [go_sem, *]; done) | (clear t u; simp [go_sem, *]; done)
theorem St.set1 {w : World} {B : Nat} {b n g : Int} {T : Nat → Bool} {wr : World} (h : St w B b n g T wr) (v : Int) : St w B b v g T (wr.setCell ⟨B, 1, none⟩ (.int .i64 v)) := by
  obtain ⟨c0, c1, c2, f0, f1, f2, t, u, lt, below, wB⟩ := h
  refine ⟨?_, ?_, ?_, ?_, ?_, ?_, fun j hj => ?_, fun j hj => ?_, ?_, below.setCell (by simpa using wB) _, wB⟩
  all_goals first | (have tj := t j hj; have uj := u j hj; clear t u; simp [go_sem, *]; done) | (clear t u; simp [go_sem, *]; done)
theorem St.set2 {w : World} {B : Nat} {b n g : Int} {T : Nat → Bool} {wr : World} (h : St w B b n g T wr) (v : Int) : St w B b n v T (wr.setCell ⟨B, 2, none⟩ (.int .u64 v)) := by
  obtain ⟨c0, c1, c2, f0, f1, f2, t, u, lt, below, wB⟩ := h
  refine ⟨?_, ?_, ?_, ?_, ?_, ?_, fun j hj => ?_, fun j hj => ?_, ?_, below.setCell (by simpa using wB) _, wB⟩
  all_goals first | (have tj := t j hj; have uj := u j hj; clear t u; simp [go_sem, *]; done) | (clear t u; simp [go_sem, *]; done)
theorem St.setT {w : World} {B : Nat} {b n g : Int} {T : Nat → Bool} {wr : World} (h : St w B b n g T wr) (i : Nat) (hi : i < 64) (v : Bool) : St w B b n g (fun j => if j = i then v else T j) (wr.setCell ⟨B + 1, i, none⟩ (.bool v)) := by
  obtain ⟨c0, c1, c2, f0, f1, f2, t, u, lt, below, wB⟩ := h
  refine ⟨?_, ?_, ?_, ?_, ?_, ?_, fun j hj => ?_, fun j hj => ?_, ?_, below.setCell (by simp; omega) _, wB⟩
  all_goals first
    | (have ti := t i hi; have ui := u i hi; have tj := t j hj; have uj := u j hj; clear t u; by_cases e : j = i <;> simp [go_sem, *]; done)
    | (have ti := t i hi; have ui := u i hi; clear t u; simp [go_sem, *]; done)
theorem Own3.newAt (w : World) (p : Addr) (v x y z : Value) (t : TypeId) : Own3 w.heap.size x y z ((w.setCell p v).alloc (.cells #[x, y, z] t)) := by
  have := Own3.new (w.setCell p v) x y z t
  rwa [show (w.setCell p v).heap.size = w.heap.size by simp] at this
theorem St.start {w w2 : World} (hb : Below w.heap.size w w2) (b n g : Int) (t u : TypeId) :
    St w w2.heap.size b n g (fun _ => false) ((w2.alloc (.cells #[.int .u64 b, .int .i64 n, .int .u64 g] t)).alloc (.cells (Array.replicate 64 (.bool false)) u)) := by
  refine ⟨?_, ?_, ?_, ?_, ?_, ?_, fun j hj => ?_, fun j hj => ?_, ?_, below_alloc (below_alloc hb _) _, hb.size⟩
  all_goals simp [go_sem]
  rw [Array.getElem?_replicate, if_pos hj]
theorem St.ld {w : World} {B : Nat} {b n g : Int} {T : Nat → Bool} {wr : World} (h : St w B b n g T wr) (hl : Ld w) : Ld wr := hl.below h.below
theorem St.congr {w : World} {B : Nat} {b n g : Int} {T T' : Nat → Bool} {wr : World} (h : St w B b n g T wr) (e : ∀ j, j < 64 → T j = T' j) : St w B b n g T' wr := by
  obtain ⟨c0, c1, c2, f0, f1, f2, t, u, lt, below, wB⟩ := h
  exact ⟨c0, c1, c2, f0, f1, f2, fun j hj => by rw [← e j hj]; exact t j hj, u, lt, below, wB⟩

/-! ### what a deed does to what is free -/
structure Good (n g : Nat) : Prop where
  lt : g < 18446744073709551616
  n64 : n ≤ 64
  low : ∀ j, n ≤ j → g.testBit j = false
theorem Good.start (n : Nat) (hn : n ≤ 64) : Good n (getN 18446744073709551615 0 n) :=
  ⟨getN_lt _ _ _ (by decide), hn, fun j hj => by rw [all_set n hn]; simp; omega⟩
theorem pc_start (n : Nat) (hn : n ≤ 64) : pc 64 (getN 18446744073709551615 0 n) = n := by
  rw [pc_all n hn 64 _ (all_set n hn)]; omega
theorem tk_start (n : Nat) (hn : n ≤ 64) (j : Nat) : tk n (getN 18446744073709551615 0 n) j = false := by
  unfold tk; rw [all_set n hn]; by_cases h : j < n <;> simp [h]
theorem Good.right {n g : Nat} (h : Good n g) (b : Nat) (hb : b ≤ 268435456) : pool_Right.f (b : Int) (n : Int) (g : Int) = some true :=
  right_yes b n g h.lt ⟨by omega, by have := h.n64; omega, hb, fun j hj => h.low j (by omega)⟩
structure Least (n g c : Nat) : Prop where
  lt : c < n
  bit : g.testBit c = true
  low : ∀ j, j < c → tk n g j = true
theorem Good.least {n g : Nat} (h : Good n g) (h0 : g ≠ 0) : Least n g (ctz g) := by
  have hc := ctz_pos g h.lt h0
  rcases ctz_cases g with ⟨e, _⟩ | ⟨_, hbit, hl⟩
  · omega
  · have hcn : ctz g < n := by
      rcases Nat.lt_or_ge (ctz g) n with x | x
      · exact x
      · rw [h.low _ x] at hbit; cases hbit
    exact ⟨hcn, hbit, fun j hj => by unfold tk; rw [hl j hj, decide_eq_true (by omega)]; rfl⟩
theorem tk_bit {n g j : Nat} (h : g.testBit j = true) : tk n g j = false := by unfold tk; rw [h]; simp
theorem tk_zero {n j : Nat} (h : j < n) : tk n 0 j = true := by unfold tk; simp [h]
theorem Good.set {n g : Nat} (h : Good n g) (i v : Nat) (hi : i < n) (hv : v < 2) : Good n (setN g i 1 v) := by
  have := h.n64
  refine ⟨setN_lt _ _ _ _, h.n64, fun j hj => ?_⟩
  rw [bit_set g i v j h.lt (by omega) hv, if_neg (by omega)]; exact h.low j hj
theorem Good.tk {n g : Nat} (h : Good n g) (i v : Nat) (hi : i < n) (hv : v < 2) (j : Nat) : (if j = i then decide (v = 0) else tk n g j) = tk n (setN g i 1 v) j := by
  have := h.n64
  unfold SPoolTakes.tk
  rw [bit_set g i v j h.lt (by omega) hv]
  by_cases e : j = i
  · rw [if_pos e, if_pos e, decide_eq_true (show j < n by omega)]
    have : v = 0 ∨ v = 1 := by omega
    rcases this with rfl | rfl <;> rfl
  · rw [if_neg e, if_neg e]
theorem pc_above (n f d : Nat) (h : ∀ j, n ≤ j → f.testBit j = false) : pc (n + d) f = pc n f := by
  induction d with
  | zero => rfl
  | succ d ih => rw [← Nat.add_assoc, pc_step, ih, h (n + d) (by omega)]; rfl
theorem pc_le_n {n g : Nat} (h : Good n g) : pc 64 g ≤ n := by
  have e : pc 64 g = pc n g := by
    have := pc_above n g (64 - n) h.low
    rwa [show n + (64 - n) = 64 by have := h.n64; omega] at this
  rw [e]; exact pc_le n g
def Rel (w : World) (B len n b : Nat) (o i : Value) (wr : World) : Prop :=
  ∃ k g m : Nat, k ≤ len ∧ i = .int .i64 (k : Int) ∧ o = .int .i64 (m : Int) ∧ St w B b n g (tk n g) wr ∧ Good n g ∧ Hid (m + pc 64 g = n)
theorem Rel.start {w : World} {B len n b : Nat} {wr : World} (hn : n ≤ 64) (S : St w B b n ((getN 18446744073709551615 0 n : Nat) : Int) (fun _ => false) wr) : Rel w B len n b (.int .i64 0) (.int .i64 0) wr :=
  ⟨0, _, 0, Nat.zero_le _, rfl, rfl, S.congr fun j _ => (tk_start n hn j).symm, Good.start n hn, by show _ = _; rw [pc_start n hn]; omega⟩
-- THE WALK
set_option maxRecDepth 100000 in
set_option maxHeartbeats 8000000 in
theorem pos (bl off len cap n b : Nat) (many : Int) (w : World) (hl : Ld w) (hb1 : b ≤ 268435456) (hm0 : 0 ≤ many) (hm1 : many ≤ 255) (hn : many % 65 = (n : Int)) (hlen : len ≤ 300) (hbl : bl < w.heap.size)
    (hc : ∀ k, k < len → ∃ d : Int, 0 ≤ d ∧ d ≤ 255 ∧ w.cell? ⟨bl, off + k, none⟩ = some (.int .u8 d)) :
    Calls Tryd.prog 5 #[.int .u32 (b : Int), .int .u8 many, .slice (some ⟨bl, off, none⟩) len cap] w fun e w' => e = .returned (.bool true) ∧ Below w.heap.size w w' := by
  have hmk : ∀ w, (Instr.makeSlice 43 (.int .i64 64) (.int .i64 64)).run Tryd.prog w = .ok (.slice (some ⟨w.heap.size, 0, none⟩) 64 64) (w.alloc (.cells (Array.replicate 64 (.bool false)) 4)) := fun _ => by kernel_rfl
  have HC := Lib.hid hc
  clear hc
  have HL := Lib.hid hl
  have hn64 : n ≤ 64 := by omega
  have hid0 := Lib.hid (Below.refl w.heap.size w)
  clear hl
  go_enter Tryd.func5, Tryd.ntmps5
  go_wp2_with fail
  refine (atlaslaw04_awake.calls true _ HL.out rfl).mono ?_
  rintro e w1 ⟨rfl, hb⟩
  have hid1 := Lib.hid hb
  clear hb hid0
  go_wp2_with fail
  refine (pool_New.calls b n _ _ _ _ _ (new_yes b n hn64 hb1)).mono ?_
  rintro e w2 ⟨rfl, hb⟩
  have hid2 := Lib.hid (below_step hid1.out hb)
  clear hb hid1
  go_wp2_with fail
  have S0 := Lib.hid (St.start hid2.out b n ((getN 18446744073709551615 0 n : Nat) : Int) 24 4)
  clear hmk hn hm0 hm1 hid2
  go_loopw [11, 12] (fun o i wr => Rel w w2.heap.size len n b o i wr) (fun _ i _ => len - (intOf i).toNat)
  case atStart => exact Rel.start hn64 S0.out
  case round =>
    obtain ⟨k, g, m, hk, rfl, rfl, S, G, hm⟩ := hrel
    clear S0
    have HS := Lib.hid S
    have HG := Lib.hid G
    have hmn : m ≤ n := by have := hm.out; omega
    clear S G
    by_cases hlt : k < len
    · obtain ⟨d, d0, d1, hcell⟩ := HC.out k hlt
      have hd := (HS.out.below.cell (p := ⟨bl, off + k, none⟩) hbl).trans hcell
      clear hcell
      by_cases h3 : 0 < d % 3
      · have c0 := HS.out.c0
        have c1 := HS.out.c1
        have c2 := HS.out.c2
        go_wp2_with fail
        clear c0 c1 c2 hd h3
        by_cases g0 : g = 0
        · have hsum : m + pc 64 g = n := hm.out
          have hT : pool_Take.f (b : Int) (n : Int) (g : Int) = some ((b : Int), (n : Int), (g : Int), 0, 8) := by
            unfold pool_Take.f; rw [if_pos ⟨by omega, by omega, by omega, by have := HG.out.lt; omega⟩, if_pos (by omega)]
          refine (pool_Take.calls _ _ _ _ _ _ _ _ _ (HS.out.ld HL.out) hT).mono ?_
          clear hT
          have hz := Lib.hid g0
          clear g0
          rintro e w3 ⟨rfl, hb⟩
          have S3 := Lib.hid ((HS.out.on hb).alloc (.cells #[.int .u64 (b : Int), .int .i64 (n : Int), .int .u64 (g : Int)] 24))
          have Q3 := Lib.hid (Own3.new w3 (.int .u64 (b : Int)) (.int .i64 (n : Int)) (.int .u64 (g : Int)) 24)
          clear hb HS
          go_wp2_with fail
          go_loop [16] (fun i => ∃ q : Nat, q ≤ n ∧ i = .int .i64 (q : Int)) (fun i => n - (intOf i).toNat)
          case atStart => exact ⟨0, Nat.zero_le _, rfl⟩
          case round =>
            obtain ⟨q, hq, rfl⟩ := hrel
            by_cases hqc : q < n
            · have hqn : (q : Int) < (n : Int) := by omega
              have hq64 : (q : Int) < 64 := by omega
              have tq := (S3.out.t q (by omega)).trans (by rw [show tk n g q = true from by rw [hz.out]; exact tk_zero hqc])
              go_wp2_with fail
              go_round
              case rel => exact ⟨q + 1, by omega, by go_num⟩
              case measure => simp [intOf]; omega
            · obtain rfl : n = q := by omega
              clear hqc hq
              have z4 := S3.out.lt
              have S4 := S3
              have Q4 := Q3
              clear S3 Q3
              go_upto_region 20 with (fail)
              generalize World.alloc _ _ = W at S4 Q4 z4 ⊢
              have c0 := S4.out.c0
              have c1 := S4.out.c1
              have c2 := S4.out.c2
              have f0 := S4.out.f0
              have f1 := S4.out.f1
              have f2 := S4.out.f2
              have q0 := Q4.out.c0
              have q1 := Q4.out.c1
              have q2 := Q4.out.c2
              go_upto_region 29 with (fail)
              clear c0 c1 c2 f0 f1 f2 q0 q1 q2 Q4 z4
              have S5 := Lib.hid (((S4.out.set0 b).set1 n).set2 g)
              clear S4
              generalize World.setCell (World.setCell (World.setCell _ _ _) _ _) _ _ = W2 at S5 ⊢
              have c0 := S5.out.c0
              have c1 := S5.out.c1
              have c2 := S5.out.c2
              go_wp2_with fail
              clear c0 c1 c2
              obtain ⟨p, hp⟩ : ∃ p, p = pc 64 g := ⟨_, rfl⟩
              refine (pool_Free.calls _ _ _ _ _ (free_f b n g HG.out.lt)).mono ?_
              rw [← hp] at hsum ⊢
              have HP := Lib.hid hp
              clear hp
              rintro e w4 ⟨rfl, hb⟩
              have hpe : ((p : Int) != (n : Int) - (m : Int)) = false := by simp; omega
              have hsm := Lib.hid hsum
              clear hsum
              have S6 := Lib.hid (S5.out.on hb)
              clear hb S5
              have c0 := S6.out.c0
              have c1 := S6.out.c1
              have c2 := S6.out.c2
              go_wp2_with fail
              clear c0 c1 c2
              refine (pool_Right.calls _ _ _ _ _ (HG.out.right b hb1)).mono ?_
              rintro e w5 ⟨rfl, hb⟩
              have S7 := Lib.hid (S6.out.on hb)
              clear hb S6
              go_wp2_with fail
              go_roundw
              case rel => exact ⟨k + 1, g, m, by omega, by go_num, by go_num, S7.out, HG.out, by show _ = _; rw [← HP.out]; exact hsm.out⟩
              case measure => simp [intOf]; omega
        · have L := HG.out.least g0
          obtain ⟨c, hcc⟩ : ∃ c, c = ctz g := ⟨_, rfl⟩
          refine (pool_Take.calls _ _ _ _ _ _ _ _ _ (HS.out.ld HL.out) (take_f b n g hb1 HG.out.lt g0)).mono ?_
          rw [← hcc] at L ⊢
          have hcn := L.lt
          have G' := Lib.hid (HG.out.set c 0 L.lt (by decide))
          have htk := Lib.hid (HG.out.tk c 0 L.lt (by decide))
          have hps := Lib.hid (pc_sub g c HG.out.lt (by omega) L.bit)
          have HLs := Lib.hid L
          clear L hcc g0
          generalize setN g c 1 0 = g' at *
          rintro e w3 ⟨rfl, hb⟩
          have S3 := Lib.hid (HS.out.on hb)
          have l3 := (HS.out.on hb).lt
          clear hb HS
          go_wp2_with fail
          go_loop [16] (fun i => ∃ q : Nat, q ≤ c ∧ i = .int .i64 (q : Int)) (fun i => c - (intOf i).toNat)
          case atStart => exact ⟨0, Nat.zero_le _, rfl⟩
          case round =>
            obtain ⟨q, hq, rfl⟩ := hrel
            by_cases hqc : q < c
            · have hqn : (q : Int) < (n : Int) := by omega
              have hq64 : (q : Int) < 64 := by omega
              have tq := ((S3.out.alloc (.cells #[.int .u64 (b : Int), .int .i64 (n : Int), .int .u64 (g' : Int)] 24)).t q (by omega)).trans (by rw [show tk n g q = true from HLs.out.low q hqc])
              go_wp2_with fail
              go_round
              case rel => exact ⟨q + 1, by omega, by go_num⟩
              case measure => simp [intOf]; omega
            · obtain rfl : c = q := by omega
              clear hqc hq
              have hqn : (c : Int) < (n : Int) := by omega
              have hq64 : (c : Int) < 64 := by omega
              have tq := ((S3.out.alloc (.cells #[.int .u64 (b : Int), .int .i64 (n : Int), .int .u64 (g' : Int)] 24)).t c (by omega)).trans (by rw [tk_bit HLs.out.bit])
              have uq := (S3.out.alloc (.cells #[.int .u64 (b : Int), .int .i64 (n : Int), .int .u64 (g' : Int)] 24)).u c (by omega)
              go_upto_region 20 with (fail)
              have S4 := Lib.hid (((S3.out.setT c (by omega) true).alloc (.cells #[.int .u64 (b : Int), .int .i64 (n : Int), .int .u64 (g' : Int)] 24)).congr (T' := tk n g') (fun j _ => by simpa using htk.out j))
              have Q4 := Lib.hid (Own3.newAt w3 ⟨w2.heap.size + 1, c, none⟩ (.bool true) (.int .u64 (b : Int)) (.int .i64 (n : Int)) (.int .u64 (g' : Int)) 24)
              have z4 := S4.out.lt
              have z5 : w2.heap.size < w3.heap.size := by omega
              clear S3 tq uq htk
              generalize World.alloc (World.setCell _ _ _) _ = W at S4 Q4 z4 ⊢
              have hsum : (m + 1) + pc 64 g' = n := by have := hm.out; have := hps.out; omega
              have hmn1 : m + 1 ≤ n := by omega
              have c0 := S4.out.c0
              have c1 := S4.out.c1
              have c2 := S4.out.c2
              have f0 := S4.out.f0
              have f1 := S4.out.f1
              have f2 := S4.out.f2
              have q0 := Q4.out.c0
              have q1 := Q4.out.c1
              have q2 := Q4.out.c2
              go_upto_region 29 with (fail)
              clear c0 c1 c2 f0 f1 f2 q0 q1 q2 Q4 z4
              have S5 := Lib.hid (((S4.out.set0 b).set1 n).set2 g')
              clear S4
              generalize World.setCell (World.setCell (World.setCell _ _ _) _ _) _ _ = W2 at S5 ⊢
              have c0 := S5.out.c0
              have c1 := S5.out.c1
              have c2 := S5.out.c2
              go_wp2_with fail
              clear c0 c1 c2
              obtain ⟨p, hp⟩ : ∃ p, p = pc 64 g' := ⟨_, rfl⟩
              refine (pool_Free.calls _ _ _ _ _ (free_f b n g' G'.out.lt)).mono ?_
              rw [← hp] at hsum ⊢
              have HP := Lib.hid hp
              clear hp
              rintro e w4 ⟨rfl, hb⟩
              have hpe : ((p : Int) != (n : Int) - ((m : Int) + 1)) = false := by simp; omega
              have hsm := Lib.hid hsum
              clear hsum
              have S6 := Lib.hid (S5.out.on hb)
              clear hb S5
              have c0 := S6.out.c0
              have c1 := S6.out.c1
              have c2 := S6.out.c2
              go_wp2_with fail
              clear c0 c1 c2
              refine (pool_Right.calls _ _ _ _ _ (G'.out.right b hb1)).mono ?_
              rintro e w5 ⟨rfl, hb⟩
              have S7 := Lib.hid (S6.out.on hb)
              clear hb S6
              go_wp2_with fail
              go_roundw
              case rel => exact ⟨k + 1, g', m + 1, by omega, by go_num, by go_num, S7.out, G'.out, by show _ = _; rw [← HP.out]; exact hsm.out⟩
              case measure => simp [intOf]; omega
      · obtain ⟨u, hu⟩ : ∃ u : Nat, d % 64 = (u : Int) := ⟨(d % 64).toNat, by omega⟩
        have hu64 : u < 64 := by omega
        have c0 := HS.out.c0
        have c1 := HS.out.c1
        have c2 := HS.out.c2
        go_wp2_with fail
        clear c0 c1 c2 hd h3 hu
        have hnn := HG.out.lt
        have hsum0 : m + pc 64 g = n := hm.out
        have gv : ∀ g2 e2 : Int, ((u < n ∧ getN g u 1 = 0) ∧ g2 = ((setN g u 1 1 : Nat) : Int) ∧ e2 = 0) ∨ (¬ (u < n ∧ getN g u 1 = 0) ∧ g2 = g ∧ e2 = 1) → pool_Give.f (b : Int) (n : Int) (g : Int) ((b : Int) + (u : Int)) = some ((b : Int), (n : Int), g2, e2) := by
          intro g2 e2 hh
          unfold pool_Give.f
          rw [if_pos ⟨by omega, by omega, by omega, by omega, by omega, by omega, by omega, by omega⟩, show (((b : Int) + (u : Int) - (b : Int)).toNat) = u by omega, Int.toNat_natCast]
          rcases hh with ⟨h, rfl, rfl⟩ | ⟨h, rfl, rfl⟩
          · rw [if_pos ⟨by omega, by omega, h.2⟩]
          · rw [if_neg (fun x => h ⟨by omega, x.2.2⟩)]
        by_cases hun : u < n
        · by_cases hbit : g.testBit u = true
          · have h := gv g 1 (.inr ⟨fun x => by have := x.2; rw [get1 g u hnn hu64, hbit] at this; simp at this, rfl, rfl⟩)
            have hT := tk_bit (n := n) hbit
            clear gv hnn hbit
            have hsum := hsum0
            refine (pool_Give.calls _ _ _ _ _ _ _ _ _ h).mono ?_
            clear h
            rintro e w3 ⟨rfl, hb⟩
            have S3 := Lib.hid (HS.out.on hb)
            have S4 := Lib.hid ((HS.out.on hb).alloc (.cells #[.int .u64 (b : Int), .int .i64 (n : Int), .int .u64 (g : Int)] 24))
            have Q4 := Lib.hid (Own3.new w3 (.int .u64 (b : Int)) (.int .i64 (n : Int)) (.int .u64 (g : Int)) 24)
            clear hb HS
            have tq := (S4.out.t u (by omega)).trans (by rw [hT])
            have hun' : (u : Int) < (n : Int) := by omega
            have hu64' : (u : Int) < 64 := by omega
            have z4 := S4.out.lt
            clear hT S3
            go_upto_region 28 with (fail)
            clear tq hun' hu64'
            generalize World.alloc _ _ = W at S4 Q4 z4 ⊢
            have c0 := S4.out.c0
            have c1 := S4.out.c1
            have c2 := S4.out.c2
            have f0 := S4.out.f0
            have f1 := S4.out.f1
            have f2 := S4.out.f2
            have q0 := Q4.out.c0
            have q1 := Q4.out.c1
            have q2 := Q4.out.c2
            go_upto_region 29 with (fail)
            clear c0 c1 c2 f0 f1 f2 q0 q1 q2 Q4 z4
            have S5 := Lib.hid (((S4.out.set0 b).set1 n).set2 g)
            clear S4
            generalize World.setCell (World.setCell (World.setCell _ _ _) _ _) _ _ = W2 at S5 ⊢
            have c0 := S5.out.c0
            have c1 := S5.out.c1
            have c2 := S5.out.c2
            go_wp2_with fail
            clear c0 c1 c2
            obtain ⟨p, hp⟩ : ∃ p, p = pc 64 g := ⟨_, rfl⟩
            refine (pool_Free.calls _ _ _ _ _ (free_f b n g HG.out.lt)).mono ?_
            rw [← hp] at hsum ⊢
            have HP := Lib.hid hp
            clear hp
            rintro e w4 ⟨rfl, hb⟩
            have hpe : ((p : Int) != (n : Int) - (m : Int)) = false := by simp; omega
            have hsm := Lib.hid hsum
            clear hsum
            have S6 := Lib.hid (S5.out.on hb)
            clear hb S5
            have c0 := S6.out.c0
            have c1 := S6.out.c1
            have c2 := S6.out.c2
            go_wp2_with fail
            clear c0 c1 c2
            refine (pool_Right.calls _ _ _ _ _ (HG.out.right b hb1)).mono ?_
            rintro e w5 ⟨rfl, hb⟩
            have S7 := Lib.hid (S6.out.on hb)
            clear hb S6
            go_wp2_with fail
            go_roundw
            case rel => exact ⟨k + 1, g, m, by omega, by go_num, by go_num, S7.out, HG.out, by show _ = _; rw [← HP.out]; exact hsm.out⟩
            case measure => simp [intOf]; omega
          · have hb0 : g.testBit u = false := by cases hh : g.testBit u <;> simp_all
            have h := gv _ 0 (.inl ⟨⟨hun, by rw [get1 g u hnn hu64, hb0]; rfl⟩, rfl, rfl⟩)
            have hT : tk n g u = true := by unfold tk; rw [hb0, decide_eq_true hun]; rfl
            have G' := Lib.hid (HG.out.set u 1 hun (by decide))
            have htk := Lib.hid (HG.out.tk u 1 hun (by decide))
            have hps := pc_add g u hnn hu64 hb0
            have hle := pc_le_n G'.out
            have hsum : (m - 1) + pc 64 (setN g u 1 1) = n := by omega
            have hm1 : 1 ≤ m := by omega
            clear gv hnn hbit hb0 hps hle
            generalize setN g u 1 1 = g' at *
            refine (pool_Give.calls _ _ _ _ _ _ _ _ _ h).mono ?_
            clear h
            rintro e w3 ⟨rfl, hb⟩
            have S3 := Lib.hid (HS.out.on hb)
            have l3 := (HS.out.on hb).lt
            clear hb HS
            have tq := ((S3.out.alloc (.cells #[.int .u64 (b : Int), .int .i64 (n : Int), .int .u64 (g' : Int)] 24)).t u (by omega)).trans (by rw [hT])
            have uq := (S3.out.alloc (.cells #[.int .u64 (b : Int), .int .i64 (n : Int), .int .u64 (g' : Int)] 24)).u u (by omega)
            have hun' : (u : Int) < (n : Int) := by omega
            have hu64' : (u : Int) < 64 := by omega
            clear hT
            go_upto_region 28 with (fail)
            have S4 := Lib.hid (((S3.out.setT u (by omega) false).alloc (.cells #[.int .u64 (b : Int), .int .i64 (n : Int), .int .u64 (g' : Int)] 24)).congr (T' := tk n g') (fun j _ => by simpa using htk.out j))
            have Q4 := Lib.hid (Own3.newAt w3 ⟨w2.heap.size + 1, u, none⟩ (.bool false) (.int .u64 (b : Int)) (.int .i64 (n : Int)) (.int .u64 (g' : Int)) 24)
            have z4 := S4.out.lt
            have z5 : w2.heap.size < w3.heap.size := by omega
            clear S3 tq uq htk hun' hu64'
            generalize World.alloc (World.setCell _ _ _) _ = W at S4 Q4 z4 ⊢
            have c0 := S4.out.c0
            have c1 := S4.out.c1
            have c2 := S4.out.c2
            have f0 := S4.out.f0
            have f1 := S4.out.f1
            have f2 := S4.out.f2
            have q0 := Q4.out.c0
            have q1 := Q4.out.c1
            have q2 := Q4.out.c2
            go_upto_region 29 with (fail)
            clear c0 c1 c2 f0 f1 f2 q0 q1 q2 Q4 z4
            have S5 := Lib.hid (((S4.out.set0 b).set1 n).set2 g')
            clear S4
            generalize World.setCell (World.setCell (World.setCell _ _ _) _ _) _ _ = W2 at S5 ⊢
            have c0 := S5.out.c0
            have c1 := S5.out.c1
            have c2 := S5.out.c2
            go_wp2_with fail
            clear c0 c1 c2
            obtain ⟨p, hp⟩ : ∃ p, p = pc 64 g' := ⟨_, rfl⟩
            refine (pool_Free.calls _ _ _ _ _ (free_f b n g' G'.out.lt)).mono ?_
            rw [← hp] at hsum ⊢
            have HP := Lib.hid hp
            clear hp
            rintro e w4 ⟨rfl, hb⟩
            have hpe : ((p : Int) != (n : Int) - ((m : Int) - 1)) = false := by simp; omega
            have hsm := Lib.hid hsum
            clear hsum
            have S6 := Lib.hid (S5.out.on hb)
            clear hb S5
            have c0 := S6.out.c0
            have c1 := S6.out.c1
            have c2 := S6.out.c2
            go_wp2_with fail
            clear c0 c1 c2
            refine (pool_Right.calls _ _ _ _ _ (G'.out.right b hb1)).mono ?_
            rintro e w5 ⟨rfl, hb⟩
            have S7 := Lib.hid (S6.out.on hb)
            clear hb S6
            go_wp2_with fail
            go_roundw
            case rel => exact ⟨k + 1, g', m - 1, by omega, by go_num, by go_num, S7.out, G'.out, by show _ = _; rw [← HP.out]; exact hsm.out⟩
            case measure => simp [intOf]; omega
        · have h := gv g 1 (.inr ⟨fun x => hun x.1, rfl, rfl⟩)
          clear gv hnn
          have hsum := hsum0
          refine (pool_Give.calls _ _ _ _ _ _ _ _ _ h).mono ?_
          clear h
          rintro e w3 ⟨rfl, hb⟩
          have S4 := Lib.hid ((HS.out.on hb).alloc (.cells #[.int .u64 (b : Int), .int .i64 (n : Int), .int .u64 (g : Int)] 24))
          have Q4 := Lib.hid (Own3.new w3 (.int .u64 (b : Int)) (.int .i64 (n : Int)) (.int .u64 (g : Int)) 24)
          clear hb HS
          have hun' : decide ((u : Int) < (n : Int)) = false := decide_eq_false (by omega)
          have z4 := S4.out.lt
          go_upto_region 28 with (fail)
          clear hun'
          generalize World.alloc _ _ = W at S4 Q4 z4 ⊢
          have c0 := S4.out.c0
          have c1 := S4.out.c1
          have c2 := S4.out.c2
          have f0 := S4.out.f0
          have f1 := S4.out.f1
          have f2 := S4.out.f2
          have q0 := Q4.out.c0
          have q1 := Q4.out.c1
          have q2 := Q4.out.c2
          go_upto_region 29 with (fail)
          clear c0 c1 c2 f0 f1 f2 q0 q1 q2 Q4 z4
          have S5 := Lib.hid (((S4.out.set0 b).set1 n).set2 g)
          clear S4
          generalize World.setCell (World.setCell (World.setCell _ _ _) _ _) _ _ = W2 at S5 ⊢
          have c0 := S5.out.c0
          have c1 := S5.out.c1
          have c2 := S5.out.c2
          go_wp2_with fail
          clear c0 c1 c2
          obtain ⟨p, hp⟩ : ∃ p, p = pc 64 g := ⟨_, rfl⟩
          refine (pool_Free.calls _ _ _ _ _ (free_f b n g HG.out.lt)).mono ?_
          rw [← hp] at hsum ⊢
          have HP := Lib.hid hp
          clear hp
          rintro e w4 ⟨rfl, hb⟩
          have hpe : ((p : Int) != (n : Int) - (m : Int)) = false := by simp; omega
          have hsm := Lib.hid hsum
          clear hsum
          have S6 := Lib.hid (S5.out.on hb)
          clear hb S5
          have c0 := S6.out.c0
          have c1 := S6.out.c1
          have c2 := S6.out.c2
          go_wp2_with fail
          clear c0 c1 c2
          refine (pool_Right.calls _ _ _ _ _ (HG.out.right b hb1)).mono ?_
          rintro e w5 ⟨rfl, hb⟩
          have S7 := Lib.hid (S6.out.on hb)
          clear hb S6
          go_wp2_with fail
          go_roundw
          case rel => exact ⟨k + 1, g, m, by omega, by go_num, by go_num, S7.out, HG.out, by show _ = _; rw [← HP.out]; exact hsm.out⟩
          case measure => simp [intOf]; omega
    · have hbl := Lib.hid HS.out.below
      clear HS
      go_wp2_with fail
      go_ret
      exact ⟨rfl, hbl.out⟩
-- THE WALK
set_option maxRecDepth 100000 in
set_option maxHeartbeats 8000000 in
theorem zero (len cap n b : Nat) (many : Int) (w : World) (hl : Ld w) (hb1 : b ≤ 268435456) (hm0 : 0 ≤ many) (hm1 : many ≤ 255) (hn : many % 65 = (n : Int)) (hlen : len ≤ 300) (a : Option Addr) (hz : len = 0) :
    Calls Tryd.prog 5 #[.int .u32 (b : Int), .int .u8 many, .slice a len cap] w fun e w' => e = .returned (.bool true) ∧ Below w.heap.size w w' := by
  have hmk : ∀ w, (Instr.makeSlice 43 (.int .i64 64) (.int .i64 64)).run Tryd.prog w = .ok (.slice (some ⟨w.heap.size, 0, none⟩) 64 64) (w.alloc (.cells (Array.replicate 64 (.bool false)) 4)) := fun _ => by kernel_rfl
  have HL := Lib.hid hl
  have hn64 : n ≤ 64 := by omega
  have hid0 := Lib.hid (Below.refl w.heap.size w)
  clear hl
  go_enter Tryd.func5, Tryd.ntmps5
  go_wp2_with fail
  refine (atlaslaw04_awake.calls true _ HL.out rfl).mono ?_
  rintro e w1 ⟨rfl, hb⟩
  have hid1 := Lib.hid hb
  clear hb hid0
  go_wp2_with fail
  refine (pool_New.calls b n _ _ _ _ _ (new_yes b n hn64 hb1)).mono ?_
  rintro e w2 ⟨rfl, hb⟩
  have hid2 := Lib.hid (below_step hid1.out hb)
  clear hb hid1
  go_wp2_with fail
  have S0 := Lib.hid (St.start hid2.out b n ((getN 18446744073709551615 0 n : Nat) : Int) 24 4)
  clear hmk hn hm0 hm1 hid2
  go_loopw [11, 12] (fun o i wr => Rel w w2.heap.size len n b o i wr) (fun _ i _ => len - (intOf i).toNat)
  case atStart => exact Rel.start hn64 S0.out
  case round =>
    obtain ⟨k, g, m, hk, rfl, rfl, S, G, hm⟩ := hrel
    clear S0
    have HS := Lib.hid S
    have HG := Lib.hid G
    have hmn : m ≤ n := by have := hm.out; omega
    clear S G
    obtain rfl : len = 0 := hz
    obtain rfl : k = 0 := by omega
    have hbl := Lib.hid HS.out.below
    clear HS
    go_wp2_with fail
    go_ret
    exact ⟨rfl, hbl.out⟩
end Go.Proofs.YtojklokbdmelhaaDoor.SPoolTakes
