/- AsidAll, the plain law: all free numbers can be taken, rising; given back, all is free that was, and what was taken is owned. -/
import Derived.Test.YtjalglcmpnjeoaaDoorSAsidAllP
import Derived.Test.YtjalglcmpnjeoaaDoorSet1
import Derived.Test.YtjalglcmpnjeoaaDoorSAsidAllx3
import Derived.Test.YtjalglcmpnjeoaaDoorSAsidAllx4
set_option linter.unusedVariables false
set_option linter.unusedSimpArgs false
namespace Go.Proofs.YtjalglcmpnjeoaaDoor.SAsidAll
open Go.RowKit Go.Proofs.YtjalglcmpnjeoaaDoorW.PrintWords Go.Proofs.YtjalglcmpnjeoaaDoor.Bits Go.Proofs.YtjalglcmpnjeoaaDoor.Pop

theorem bit_l0 (w i : Nat) (hw : w < 18446744073709551616) (hi : i < 64) (d : Nat) : ∀ k j : Nat, j ≤ i → i - j = d → d < k → atlasref01_Bit.l0 k ((w / 2 ^ j : Nat) : Int) (i : Int) (j : Int) = some (w.testBit i) := by
  induction d with
  | zero =>
    intro k j h1 h2 hk
    obtain ⟨k, rfl⟩ : ∃ m, k = m + 1 := ⟨k - 1, by omega⟩
    obtain rfl : j = i := by omega
    rw [atlasref01_Bit.l0, if_neg (by omega), Int.tmod_eq_emod_of_nonneg (Int.natCast_nonneg _), Nat.testBit_eq_decide_div_mod_eq]
    refine congrArg some ?_
    rw [Bool.eq_iff_iff, beq_iff_eq, decide_eq_true_eq]
    omega
  | succ d ih =>
    intro k j h1 h2 hk
    obtain ⟨k, rfl⟩ : ∃ m, k = m + 1 := ⟨k - 1, by omega⟩
    have hle : w / 2 ^ j < 18446744073709551616 := Nat.lt_of_le_of_lt (Nat.div_le_self _ _) hw
    rw [atlasref01_Bit.l0, if_pos (by omega), Bits.w64_small _ (by omega) (by omega), Int.tdiv_eq_ediv_of_nonneg (Int.natCast_nonneg _),
      show (((w / 2 ^ j : Nat) : Int) / 2) = ((w / 2 ^ (j + 1) : Nat) : Int) by rw [Nat.pow_succ, ← Nat.div_div_eq_div_mul]; omega, Bits.wrap_u _ (Nat.lt_of_le_of_lt (Nat.div_le_self _ _) hw)]
    exact ih k (j + 1) (by omega) (by omega) (by omega)
theorem bit_f (w i k : Nat) (hw : w < 18446744073709551616) (hi : i < 64) (hk : 66 < k) : atlasref01_Bit.f k (w : Int) (i : Int) = some (w.testBit i) := by
  obtain ⟨k, rfl⟩ : ∃ m, k = m + 1 := ⟨k - 1, by omega⟩
  unfold atlasref01_Bit.f
  rw [if_neg (by omega), decide_eq_false (by omega), atlasref01_Bit.j0, if_neg (by decide)]
  have := bit_l0 w i hw hi i k 0 (by omega) (by omega) (by omega)
  simpa using this

/-- Numbers of address spaces are right. -/
def AR (m : Int) (f o : Nat) : Prop := 1 ≤ m ∧ m ≤ 16 ∧ ∀ j : Nat, m ≤ j → f.testBit j = false ∧ o.testBit j = false
theorem right_l0 (m : Int) (f o : Nat) (hf : f < 18446744073709551616) (ho : o < 18446744073709551616) (n : Nat) (hn : n ≤ 64) (d : Nat) : ∀ k j : Nat, j ≤ 64 → 64 - j = d → d + 70 < k → n ≤ j → (∀ i, n ≤ i → i < j → f.testBit i = false ∧ o.testBit i = false) →
    ∃ r : Bool, atlasref18_Right.l0 k (j : Int) m (f : Int) (o : Int) = some r ∧ (r = true ↔ ∀ i, n ≤ i → f.testBit i = false ∧ o.testBit i = false) := by
  induction d with
  | zero =>
    intro k j h1 h2 hk hj hlow
    obtain ⟨k, rfl⟩ : ∃ q, k = q + 1 := ⟨k - 1, by omega⟩
    rw [atlasref18_Right.l0, if_neg (by omega)]
    refine ⟨true, rfl, fun _ i hi => ?_, fun _ => rfl⟩
    by_cases h : i < j
    · exact hlow i hi h
    · exact ⟨bit_high f i hf (by omega), bit_high o i ho (by omega)⟩
  | succ d ih =>
    intro k j h1 h2 hk hj hlow
    obtain ⟨k, rfl⟩ : ∃ q, k = q + 1 := ⟨k - 1, by omega⟩
    rw [atlasref18_Right.l0, if_pos (by omega), bit_f f j k hf (by omega) (by omega), Option.bind_some]
    by_cases h : f.testBit j = true
    · rw [if_pos h]
      refine ⟨false, rfl, fun x => (Bool.noConfusion x), fun x => ?_⟩
      rw [(x j hj).1] at h; exact h
    · rw [if_neg h, bit_f o j k ho (by omega) (by omega), Option.bind_some]
      by_cases h' : o.testBit j = true
      · rw [if_pos h']
        refine ⟨false, rfl, fun x => (Bool.noConfusion x), fun x => ?_⟩
        rw [(x j hj).2] at h'; exact h'
      · rw [if_neg h', w64_small _ (by omega) (by omega)]
        refine ih k (j + 1) (by omega) (by omega) (by omega) (by omega) fun i h1 h2 => ?_
        by_cases e : i = j
        · subst e; exact ⟨by simpa using h, by simpa using h'⟩
        · exact hlow i h1 (by omega)
theorem right_f (m : Int) (f o : Nat) (hf : f < 18446744073709551616) (ho : o < 18446744073709551616) (k : Nat) (hk : 140 < k) : ∃ r : Bool, atlasref18_Right.f k m (f : Int) (o : Int) = some r ∧ (r = true ↔ AR m f o) := by
  unfold atlasref18_Right.f
  obtain ⟨k, rfl⟩ : ∃ q, k = q + 1 := ⟨k - 1, by omega⟩
  by_cases h0 : m < 1
  · rw [if_pos h0, atlasref18_Right.j0, if_pos rfl]; exact ⟨false, rfl, fun x => Bool.noConfusion x, fun x => absurd x.1 (by omega)⟩
  · by_cases h1 : m > 16
    · rw [if_neg h0, decide_eq_true h1, atlasref18_Right.j0, if_pos rfl]; exact ⟨false, rfl, fun x => Bool.noConfusion x, fun x => absurd x.2.1 (by omega)⟩
    · obtain ⟨n, rfl⟩ := Int.eq_ofNat_of_zero_le (show 0 ≤ m by omega)
      rw [if_neg h0, decide_eq_false h1, atlasref18_Right.j0, if_neg (show ¬ (false = true) by decide)]
      obtain ⟨r, hr, hi⟩ := right_l0 n f o hf ho n (by omega) (64 - n) k n (by omega) rfl (by omega) (by omega) fun i a c => absurd c (by omega)
      refine ⟨r, hr, hi.trans ⟨fun x => ⟨by omega, by omega, fun j hj => x j (by omega)⟩, fun x j hj => x.2.2 j (by omega)⟩⟩

theorem free_f (m o : Int) (f : Nat) (hf : f < 18446744073709551616) : asid_Free.f m (f : Int) o = some ((pc 64 f : Nat) : Int) := by
  unfold asid_Free.f; rw [ones_f f hf]; rfl
/-- The least number is taken. -/
theorem take_f (m : Int) (f o : Nat) (hf : f < 18446744073709551616) (ho : o < 18446744073709551616) (h0 : f ≠ 0) :
    asid_Take.f m (f : Int) (o : Int) = some (m, ((setN f (ctz f) 1 0 : Nat) : Int), ((setN o (ctz f) 1 1 : Nat) : Int), ((ctz f + 1 : Nat) : Int), o.testBit (ctz f), 0) := by
  have ht := ctz_pos f hf h0
  have z : bits_TrailingZeros64.f (f : Int) = some ((ctz f : Nat) : Int) := by
    show Hand.tz (f : Int) = _
    unfold Hand.tz
    rw [if_pos ⟨by omega, by omega⟩, Int.toNat_natCast]
  have g : bits_Get.f (o : Int) ((ctz f : Nat) : Int) 1 = some ((getN o (ctz f) 1 : Nat) : Int) := get_f o (ctz f) 1 ho (by omega) (by omega)
  have s0 : bits_Set.f (f : Int) ((ctz f : Nat) : Int) 1 0 = some ((setN f (ctz f) 1 0 : Nat) : Int) := set_f f (ctz f) 1 0 hf (by omega) (by omega)
  have s1 : bits_Set.f (o : Int) ((ctz f : Nat) : Int) 1 1 = some ((setN o (ctz f) 1 1 : Nat) : Int) := set_f o (ctz f) 1 1 ho (by omega) (by omega)
  unfold asid_Take.f
  rw [if_neg (by rw [beq_iff_eq]; omega), z, Option.bind_some, g, Option.bind_some, s0, Option.bind_some, s1, Option.bind_some, w64_small _ (by omega) (by omega), show ((ctz f : Nat) : Int) + 1 = ((ctz f + 1 : Nat) : Int) by omega, wrap_u _ (by omega), get1 o _ ho ht]
  cases o.testBit (ctz f) <;> rfl
theorem give_f (m : Int) (f : Nat) (o : Int) (i : Nat) (hm : m ≤ 64) (hf : f < 18446744073709551616) (hi : (i : Int) < m) (h : f.testBit i = false) :
    asid_Give.f m (f : Int) o ((i + 1 : Nat) : Int) = some (m, ((setN f i 1 1 : Nat) : Int), o, 0) := by
  unfold asid_Give.f
  rw [if_pos ⟨by omega, by omega, by omega, by omega, by omega, by omega⟩, show (((i + 1 : Nat) : Int) - 1) = (i : Int) by omega, Int.toNat_natCast, Int.toNat_natCast, if_neg]
  rintro (a | a | a)
  · omega
  · omega
  · rw [get1 f i hf (by omega), h] at a; exact absurd a (by decide)

/-- A list of places as numbers. -/
def nums (l : List Nat) : List Int := l.map fun (i : Nat) => ((i + 1 : Nat) : Int)
theorem nums_len (l : List Nat) : (nums l).length = l.length := by simp [nums]
theorem rd_nums (l : List Nat) (i : Nat) (h : i < l.length) : rd (nums l) (i : Int) = ((l.getD i 0 + 1 : Nat) : Int) := by
  simp [rd, nums, List.getD_eq_getElem?_getD, List.getElem?_map, List.getElem?_eq_getElem h]
theorem getD_mem (l : List Nat) (q : Nat) (h : q < l.length) : l.getD q 0 ∈ l := by
  rw [List.getD_eq_getElem?_getD, List.getElem?_eq_getElem h]; exact List.getElem_mem _
/-- Given back, all that was taken. -/
theorem giving (m : Int) (f o p : Nat) (l : List Nat) (hm : m ≤ 16) (hf : f < 18446744073709551616) (ho : o < 18446744073709551616) (hp : ∀ j, p.testBit j = (o.testBit j || decide (j ∈ l))) (hl : l.length ≤ 64) (hln : ∀ i ∈ l, (i : Int) < m) (hlf : ∀ j, f.testBit j = decide (j ∈ l)) (hnd : l.Pairwise (· < ·)) (d : Nat) :
    ∀ k i g : Nat, i ≤ l.length → l.length - i = d → d < k → g < 18446744073709551616 → (∀ j, g.testBit j = decide (∃ i', i' < i ∧ l.getD i' 0 = j)) →
    atlaslaw18_AsidAll.l1 k (nums l) (i : Int) m (f : Int) (o : Int) m (g : Int) (p : Int) = some true := by
  have hinj : ∀ p q, p < l.length → q < l.length → l.getD p 0 = l.getD q 0 → p = q := by
    intro p q hp hq e
    rw [List.getD_eq_getElem?_getD, List.getElem?_eq_getElem hp, List.getD_eq_getElem?_getD, List.getElem?_eq_getElem hq] at e
    simp only [Option.getD_some] at e
    rcases Nat.lt_trichotomy p q with h | h | h
    · have := List.pairwise_iff_getElem.1 hnd p q hp hq h; omega
    · exact h
    · have := List.pairwise_iff_getElem.1 hnd q p hq hp h; omega
  induction d with
  | zero =>
    intro k i g h1 h2 hk hg hbits
    obtain ⟨k, rfl⟩ : ∃ q, k = q + 1 := ⟨k - 1, by omega⟩
    obtain rfl : i = l.length := by omega
    have e : g = f := eq_of_bits fun j => by
      rw [hbits, hlf]
      refine decide_eq_decide.2 ⟨?_, ?_⟩
      · rintro ⟨i', hi', rfl⟩
        exact getD_mem l _ hi'
      · intro hj
        obtain ⟨p, hp, rfl⟩ := List.mem_iff_getElem.1 hj
        refine ⟨p, hp, ?_⟩
        rw [List.getD_eq_getElem?_getD, List.getElem?_eq_getElem hp]
        rfl
    subst e
    have e2 : p = o ||| g := eq_of_bits fun j => by rw [hp, Nat.testBit_or, hlf]
    rw [atlaslaw18_AsidAll.l1, nums_len, if_neg (by omega), if_pos rfl, or_n o g ho hg, if_pos (by rw [e2])]
    simp
  | succ d ih =>
    intro k i g h1 h2 hk hg hbits
    obtain ⟨k, rfl⟩ : ∃ q, k = q + 1 := ⟨k - 1, by omega⟩
    have hq : i < l.length := by omega
    have hin := hln _ (getD_mem l i hq)
    have hbit : g.testBit (l.getD i 0) = false := by
      rw [hbits]
      refine decide_eq_false ?_
      rintro ⟨i', hi', e⟩
      have := hinj _ _ (by omega) hq e
      omega
    have gv := give_f m g (p : Int) _ (by omega) hg hin hbit
    rw [atlaslaw18_AsidAll.l1, nums_len, if_pos (by omega), if_pos (Int.natCast_nonneg _), rd_nums l _ hq, gv, Option.bind_some, if_pos rfl, w64_small _ (by omega) (by omega)]
    refine ih k (i + 1) _ (by omega) (by omega) (by omega) (setN_lt _ _ _ _) fun j => ?_
    rw [bit_set g _ 1 j hg (by omega) (by decide)]
    by_cases e : j = l.getD i 0
    · rw [if_pos e]
      exact (decide_eq_true (show (1 : Nat) = 1 from rfl)).trans (decide_eq_true ⟨i, by omega, e.symm⟩).symm
    · rw [if_neg e, hbits]
      refine decide_eq_decide.2 ⟨?_, ?_⟩
      · rintro ⟨i', h, h'⟩; exact ⟨i', by omega, h'⟩
      · rintro ⟨i', h, h'⟩
        by_cases e2 : i' = i
        · subst e2; exact absurd h'.symm e
        · exact ⟨i', by omega, h'⟩

/-- What was taken of the free places so far: the least ones, rising; and all that was taken is owned. -/
structure Took (f o g p n : Nat) (l : List Nat) : Prop where
  hg : g < 18446744073709551616
  hp : p < 18446744073709551616
  bits : ∀ j, f.testBit j = (g.testBit j || decide (j ∈ l))
  own : ∀ j, p.testBit j = (o.testBit j || decide (j ∈ l))
  apart : ∀ j ∈ l, g.testBit j = false
  below : ∀ i ∈ l, ∀ j, g.testBit j = true → i < j
  low : ∀ i ∈ l, i < n
  cnt : pc 64 f = pc 64 g + l.length
  nd : l.Pairwise (· < ·)
theorem Took.step {f o g p n : Nat} {l : List Nat} (h : Took f o g p n l) (h0 : g ≠ 0) (hlow : ∀ j, n ≤ j → f.testBit j = false) : Took f o (setN g (ctz g) 1 0) (setN p (ctz g) 1 1) n (l ++ [ctz g]) := by
  have ht := ctz_pos g h.hg h0
  rcases ctz_cases g with ⟨e, _⟩ | ⟨_, hb, hl⟩
  · omega
  have hs := fun j => bit_set g (ctz g) 0 j h.hg ht (by decide)
  have hfb : f.testBit (ctz g) = true := by rw [h.bits, hb]; rfl
  refine ⟨setN_lt _ _ _ _, setN_lt _ _ _ _, fun j => ?_, fun j => ?_, fun j hj => ?_, fun i hi j hj => ?_, fun i hi => ?_, ?_, ?_⟩
  · rw [hs, h.bits]
    by_cases e : j = ctz g
    · subst e; rw [if_pos rfl, hb]; simp
    · rw [if_neg e]; simp [e]
  · rw [bit_set p (ctz g) 1 j h.hp ht (by decide), h.own]
    by_cases e : j = ctz g
    · subst e; rw [if_pos rfl]; simp
    · rw [if_neg e]; simp [e]
  · rw [hs]
    by_cases e : j = ctz g
    · rw [if_pos e]; rfl
    · rw [if_neg e]
      rcases List.mem_append.1 hj with hj | hj
      · exact h.apart j hj
      · exact absurd (List.mem_singleton.1 hj) e
  · rw [hs] at hj
    by_cases e : j = ctz g
    · rw [if_pos e] at hj; exact Bool.noConfusion hj
    · rw [if_neg e] at hj
      rcases List.mem_append.1 hi with hi | hi
      · exact h.below i hi j hj
      · rw [List.mem_singleton.1 hi]
        by_cases hlt : j < ctz g
        · rw [hl j hlt] at hj; exact Bool.noConfusion hj
        · omega
  · rcases List.mem_append.1 hi with hi | hi
    · exact h.low i hi
    · rw [List.mem_singleton.1 hi]
      by_cases hc : n ≤ ctz g
      · rw [hlow _ hc] at hfb; exact Bool.noConfusion hfb
      · omega
  · have := pc_sub g (ctz g) h.hg ht hb
    rw [h.cnt, this, List.length_append]
    simp
    omega
  · refine List.pairwise_append.2 ⟨h.nd, List.pairwise_singleton _ _, fun a ha b hb' => ?_⟩
    rw [List.mem_singleton.1 hb']
    exact h.below a ha _ hb
theorem pc_low (n f d : Nat) (h : ∀ j, n ≤ j → f.testBit j = false) : pc (n + d) f ≤ n := by
  induction d with
  | zero => exact pc_le n f
  | succ d ih =>
    have e : pc (n + (d + 1)) f = pc (n + d) f + (f.testBit (n + d)).toNat := by
      rw [pc_sum, pc_sum, show n + (d + 1) = (n + d) + 1 by omega, List.range_succ]
      simp
    rw [e, h _ (by omega)]
    simpa using ih
/-- Behind the last that is taken. -/
theorem ending (n f o g p k : Nat) (l : List Nat) (i : Int) (hn : n ≤ 16) (hf : f < 18446744073709551616) (ho : o < 18446744073709551616) (h : Took f o g p n l) (hz : pc 64 g = 0) (hk : 70 < k) :
    atlaslaw18_AsidAll.j2 k (nums l) i false (n : Int) (f : Int) (o : Int) (n : Int) (g : Int) (p : Int) = some true := by
  obtain ⟨k, rfl⟩ : ∃ q, k = q + 1 := ⟨k - 1, by omega⟩
  have hle := pc_le 64 f
  have hlen : l.length = pc 64 f := by have := h.cnt; omega
  have hg0 : ∀ j, g.testBit j = false := fun j => by
    by_cases hj : j < 64
    · exact (pc_zero_iff 64 g).1 hz j hj
    · exact bit_high g j h.hg (by omega)
  rw [atlaslaw18_AsidAll.j2, if_neg (by decide), free_f _ _ f hf, Option.bind_some, nums_len, if_pos (by rw [hlen])]
  refine giving n f o p l (by omega) hf ho h.own (by omega) (fun i hi => by have := h.low i hi; omega) (fun j => by rw [h.bits, hg0]; rfl) h.nd l.length k 0 g (by omega) (by omega) (by omega) h.hg fun j => ?_
  rw [hg0]
  exact (decide_eq_false (by rintro ⟨i', hi, _⟩; omega)).symm
theorem taking (n f o : Nat) (hn : n ≤ 16) (hf : f < 18446744073709551616) (ho : o < 18446744073709551616) (hlow : ∀ j, n ≤ j → f.testBit j = false) (d : Nat) :
    ∀ (k g p : Nat) (l : List Nat), Took f o g p n l → pc 64 g = d → 2 * d + 80 < k →
    atlaslaw18_AsidAll.l0 k (nums l) (l.length : Int) (n : Int) (f : Int) (o : Int) (n : Int) (g : Int) (p : Int) = some true := by
  have hle : pc 64 f ≤ n := by have := pc_low n f (64 - n) hlow; rwa [show n + (64 - n) = 64 by omega] at this
  induction d with
  | zero =>
    intro k g p l h hd hk
    obtain ⟨k, rfl⟩ : ∃ q, k = q + 1 := ⟨k - 1, by omega⟩
    rw [atlaslaw18_AsidAll.l0]
    by_cases h64 : (l.length : Int) < 16
    · rw [if_pos h64, free_f _ _ g h.hg, Option.bind_some, hd, decide_eq_false (by decide)]
      exact ending n f o g p k l _ hn hf ho h hd (by omega)
    · rw [if_neg h64]
      exact ending n f o g p k l _ hn hf ho h hd (by omega)
  | succ d ih =>
    intro k g p l h hd hk
    obtain ⟨k, rfl⟩ : ∃ q, k = q + 2 := ⟨k - 2, by omega⟩
    have h0 : g ≠ 0 := by
      rintro rfl
      have := (pc_zero_iff 64 0).2 fun j _ => by simp
      omega
    have hcnt := h.cnt
    have hnext := h.step h0 hlow
    have ht := ctz_pos g h.hg h0
    rcases ctz_cases g with ⟨e, _⟩ | ⟨_, hbit, _⟩
    · omega
    have hpc : pc 64 (setN g (ctz g) 1 0) = d := by have := pc_sub g (ctz g) h.hg ht hbit; omega
    have hstep := ih k _ _ _ hnext hpc (by omega)
    have hlt : ctz g < n := hnext.low _ (by simp)
    have hown : p.testBit (ctz g) = o.testBit (ctz g) := by
      rw [h.own]
      have hnl : ctz g ∉ l := fun hm => by have := h.apart _ hm; rw [hbit] at this; exact Bool.noConfusion this
      simp [hnl]
    have hsh : ((Int.tmod (shr .u64 (o : Int) ((ctz g : Nat) : Int)) 2) == 1) = o.testBit (ctz g) := by
      rw [shr_n, Nat.min_eq_left (by omega), Int.tmod_eq_emod_of_nonneg (Int.natCast_nonneg _), Nat.testBit_eq_decide_div_mod_eq, Bool.eq_iff_iff, beq_iff_eq, decide_eq_true_eq]
      omega
    have happ : nums l ++ [((ctz g + 1 : Nat) : Int)] = nums (l ++ [ctz g]) := by simp [nums]
    have hlen' : wrap64 ((l.length : Int) + 1) = ((l ++ [ctz g]).length : Int) := by
      rw [w64_small _ (by omega) (by omega), List.length_append]; simp
    rw [atlaslaw18_AsidAll.l0, if_pos (by omega), free_f _ _ g h.hg, Option.bind_some, hd, decide_eq_true (by omega), atlaslaw18_AsidAll.j2, if_pos rfl, take_f _ g p h.hg h.hp h0, Option.bind_some, if_pos rfl, nums_len]
    have hin : (if (p.testBit (ctz g) != ((Int.tmod (shr .u64 (o : Int) ((ctz g : Nat) : Int)) 2) == 1)) = true then some false else (if l.length < 17592186044416 then atlaslaw18_AsidAll.l0 k (nums l ++ [((ctz g + 1 : Nat) : Int)]) (wrap64 ((l.length : Int) + 1)) (n : Int) (f : Int) (o : Int) (n : Int) ((setN g (ctz g) 1 0 : Nat) : Int) ((setN p (ctz g) 1 1 : Nat) : Int) else none)) = some true := by
      rw [hsh, hown, if_neg (by simp), if_pos (by omega), happ, hlen']
      exact hstep
    rw [if_neg (by show ¬ (((ctz g + 1 : Nat) : Int) < 1); omega), if_neg (by show ¬ (((ctz g + 1 : Nat) : Int) > 16); omega), show (((ctz g + 1 : Nat) : Int) - 1) = ((ctz g : Nat) : Int) by omega, wrap_u _ (by omega)]
    by_cases hl0 : (l.length : Int) > 0
    · have hq : l.length - 1 < l.length := by omega
      have hlast := h.below _ (getD_mem l _ hq) _ hbit
      rw [if_pos hl0, w64_small ((l.length : Int) - 1) (by omega) (by omega), show ((l.length : Int) - 1) = ((l.length - 1 : Nat) : Int) by omega, if_pos (Int.natCast_nonneg _), if_pos (Int.ofNat_lt.2 hq), rd_nums l _ hq, if_neg (by
        show ¬ (((l.getD (l.length - 1) 0 + 1 : Nat) : Int) ≥ ((ctz g + 1 : Nat) : Int))
        omega), if_pos (Int.natCast_nonneg _)]
      exact hin
    · rw [if_neg hl0, if_pos (Int.natCast_nonneg _)]
      exact hin
theorem law (m : Int) (f o : Nat) (hf : f < 18446744073709551616) (ho : o < 18446744073709551616) : atlaslaw18_AsidAll.f 400 m (f : Int) (o : Int) = some true := by
  unfold atlaslaw18_AsidAll.f
  obtain ⟨r, hr, hi⟩ := right_f m f o hf ho 400 (by omega)
  unfold atlaslaw18_awake.f
  rw [Option.bind_some, if_pos rfl, hr, Option.bind_some]
  cases r with
  | false => rw [show (!false) = true from rfl, atlaslaw18_AsidAll.j0, if_pos rfl]; rfl
  | true =>
    obtain ⟨h0, h1, h2⟩ := hi.1 rfl
    obtain ⟨n, rfl⟩ := Int.eq_ofNat_of_zero_le (show 0 ≤ m by omega)
    rw [show (!true) = false from rfl, atlaslaw18_AsidAll.j0, if_neg (by decide)]
    exact taking n f o (by omega) hf ho (fun j hj => (h2 j (by omega)).1) (pc 64 f) 399 f o [] ⟨hf, ho, fun j => by simp, fun j => by simp, fun j hj => absurd hj (by simp), fun i hi => absurd hi (by simp), fun i hi => absurd hi (by simp), by simp, List.Pairwise.nil⟩ rfl (by have := pc_le 64 f; omega)
end Go.Proofs.YtjalglcmpnjeoaaDoor.SAsidAll
