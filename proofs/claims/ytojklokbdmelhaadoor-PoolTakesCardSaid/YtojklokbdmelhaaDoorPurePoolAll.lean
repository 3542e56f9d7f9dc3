/- PoolAll, the plain law: all free frames can be taken, rising; given back from whatever place on, the pool is as it was. -/
import Derived.Test.YtojklokbdmelhaaDoorSPoolAllR
import Derived.Test.YtojklokbdmelhaaDoorSPoolAllx4
set_option linter.unusedVariables false
set_option linter.unusedSimpArgs false
namespace Go.Proofs.YtojklokbdmelhaaDoor.SPoolAll
open Go.RowKit Go.Proofs.YtojklokbdmelhaaDoorW.PrintWords Go.Proofs.YtojklokbdmelhaaDoor.Bits Go.Proofs.YtojklokbdmelhaaDoor.Pop

/-- The least frame is taken. -/
theorem take_f (b n f : Nat) (hb : b ≤ 268435456) (hf : f < 18446744073709551616) (h0 : f ≠ 0) :
    pool_Take.f (b : Int) (n : Int) (f : Int) = some ((b : Int), (n : Int), ((setN f (ctz f) 1 0 : Nat) : Int), ((b + ctz f : Nat) : Int), 0) := by
  unfold pool_Take.f
  rw [if_pos ⟨by omega, by omega, by omega, by omega⟩, if_neg (by omega), Int.toNat_natCast]
  simp
theorem is_f (b n f a : Nat) (hb : b ≤ 268435456) (hn : n ≤ 64) (hf : f < 18446744073709551616) (ha : a < 18446744073709551616) :
    pool_Is.f (b : Int) (n : Int) (f : Int) (a : Int) = some (decide (b ≤ a ∧ a - b < n ∧ getN f (a - b) 1 = 0)) := pool_Is.is b n f a (by omega) (by omega) hf ha
theorem give_f (b n f i : Nat) (hb : b ≤ 268435456) (hn : n ≤ 64) (hf : f < 18446744073709551616) (hi : i < n) (h : f.testBit i = false) :
    pool_Give.f (b : Int) (n : Int) (f : Int) ((b + i : Nat) : Int) = some ((b : Int), (n : Int), ((setN f i 1 1 : Nat) : Int), 0) := by
  unfold pool_Give.f
  rw [if_pos ⟨by omega, by omega, by omega, by omega, by omega, by omega, by omega, by omega⟩, show (((b + i : Nat) : Int) - (b : Int)) = (i : Int) by omega, Int.toNat_natCast, Int.toNat_natCast,
    if_pos ⟨by omega, by omega, by rw [get1 f i hf (by omega), h]; rfl⟩]

/-- A list of places as frames. -/
def frames (b : Nat) (l : List Nat) : List Int := l.map fun (i : Nat) => ((b + i : Nat) : Int)
theorem frames_len (b : Nat) (l : List Nat) : (frames b l).length = l.length := by simp [frames]
theorem rd_frames (b : Nat) (l : List Nat) (i : Nat) (h : i < l.length) : rd (frames b l) (i : Int) = ((b + l.getD i 0 : Nat) : Int) := by
  simp [rd, frames, List.getD_eq_getElem?_getD, List.getElem?_map, List.getElem?_eq_getElem h]

theorem mod_inj (i' i u n : Nat) (h : i' < i) (hi : i < n) (e : (i' + u) % n = (i + u) % n) : False := by
  have := Nat.sub_mod_eq_zero_of_mod_eq e.symm
  rw [show i + u - (i' + u) = i - i' by omega, Nat.mod_eq_of_lt (by omega)] at this
  omega
theorem mod_back (p u n : Nat) (hp : p < n) : ((p + (n - u % n)) % n + u) % n = p := by
  have h0 : 0 < n := by omega
  have hu' : u % n < n := Nat.mod_lt _ h0
  rw [Nat.mod_add_mod]
  have e1 : p + (n - u % n) + u = p + n * (u / n + 1) := by
    have := Nat.div_add_mod u n
    rw [Nat.mul_add]
    omega
  rw [e1, Nat.add_mul_mod_self_left, Nat.mod_eq_of_lt hp]
/-- Given back, from a place of the list on. -/
theorem giving (b n f u : Nat) (l : List Nat) (hb : b ≤ 268435456) (hn : n ≤ 64) (hu : u < 256) (hf : f < 18446744073709551616) (hl : l.length ≤ 64) (hln : ∀ i ∈ l, i < n) (hlf : ∀ j, f.testBit j = decide (j ∈ l)) (hnd : l.Pairwise (· < ·)) (d : Nat) :
    ∀ k i g : Nat, i ≤ l.length → l.length - i = d → d < k → g < 18446744073709551616 → (∀ j, g.testBit j = decide (∃ i', i' < i ∧ l.getD ((i' + u) % l.length) 0 = j)) →
    atlaslaw04_PoolAll.l1 k (u : Int) (frames b l) (i : Int) (b : Int) (n : Int) (f : Int) (b : Int) (n : Int) (g : Int) = some true := by
  have hmem : ∀ q, q < l.length → l.getD q 0 ∈ l := fun q hq => by
    rw [List.getD_eq_getElem?_getD, List.getElem?_eq_getElem hq]; exact List.getElem_mem _
  have hinj : ∀ p q, p < l.length → q < l.length → l.getD p 0 = l.getD q 0 → p = q := by
    intro p q hp hq e
    rw [List.getD_eq_getElem?_getD, List.getElem?_eq_getElem hp, List.getD_eq_getElem?_getD, List.getElem?_eq_getElem hq] at e
    simp only [Option.getD_some] at e
    rcases Nat.lt_trichotomy p q with h | h | h
    · have := List.pairwise_iff_getElem.1 hnd p q hp hq h; omega
    · exact h
    · have := List.pairwise_iff_getElem.1 hnd q p hq hp h; omega
  induction d with
  | zero =>
    intro k i g h1 h2 hk hg hbits
    obtain ⟨k, rfl⟩ : ∃ q, k = q + 1 := ⟨k - 1, by omega⟩
    obtain rfl : i = l.length := by omega
    have e : g = f := eq_of_bits fun j => by
      rw [hbits, hlf]
      refine decide_eq_decide.2 ⟨?_, ?_⟩
      · rintro ⟨i', hi', rfl⟩
        exact hmem _ (Nat.mod_lt _ (by omega))
      · intro hj
        obtain ⟨p, hp, rfl⟩ := List.mem_iff_getElem.1 hj
        refine ⟨(p + (l.length - u % l.length)) % l.length, Nat.mod_lt _ (by omega), ?_⟩
        have := mod_back p u l.length hp
        rw [this, List.getD_eq_getElem?_getD, List.getElem?_eq_getElem hp]
        rfl
    subst e
    rw [atlaslaw04_PoolAll.l1, frames_len, if_neg (by omega)]
    simp
  | succ d ih =>
    intro k i g h1 h2 hk hg hbits
    obtain ⟨k, rfl⟩ : ∃ q, k = q + 1 := ⟨k - 1, by omega⟩
    have h0 : 0 < l.length := by omega
    have hq : (i + u) % l.length < l.length := Nat.mod_lt _ h0
    have eidx : Int.tmod (wrap64 ((i : Int) + wrap64 (u : Int))) (l.length : Int) = (((i + u) % l.length : Nat) : Int) := by
      rw [w64_small (u : Int) (by omega) (by omega), w64_small _ (by omega) (by omega), Int.tmod_eq_emod_of_nonneg (by omega)]
      simp
    have hbit : g.testBit (l.getD ((i + u) % l.length) 0) = false := by
      rw [hbits]
      refine decide_eq_false ?_
      rintro ⟨i', hi', e⟩
      have := hinj _ _ (Nat.mod_lt _ h0) hq e
      exact mod_inj i' i u l.length hi' (by omega) this
    have hin := hln _ (hmem _ hq)
    have gv := give_f b n g _ hb hn hg hin hbit
    rw [atlaslaw04_PoolAll.l1, frames_len, if_pos (by omega), if_neg (by omega), eidx, if_pos (Int.natCast_nonneg _), if_pos (Int.ofNat_lt.2 hq), rd_frames b l _ hq, gv, Option.bind_some, if_pos rfl, w64_small _ (by omega) (by omega)]
    refine ih k (i + 1) _ (by omega) (by omega) (by omega) (setN_lt _ _ _ _) fun j => ?_
    rw [bit_set g _ 1 j hg (by omega) (by decide)]
    by_cases e : j = l.getD ((i + u) % l.length) 0
    · rw [if_pos e]
      exact (decide_eq_true (show (1 : Nat) = 1 from rfl)).trans (decide_eq_true ⟨i, by omega, e.symm⟩).symm
    · rw [if_neg e, hbits]
      refine decide_eq_decide.2 ⟨?_, ?_⟩
      · rintro ⟨i', h, h'⟩; exact ⟨i', by omega, h'⟩
      · rintro ⟨i', h, h'⟩
        by_cases e2 : i' = i
        · subst e2; exact absurd h'.symm e
        · exact ⟨i', by omega, h'⟩

/-- What was taken of a pool's free places so far: the least ones, rising. -/
structure Took (f g n : Nat) (l : List Nat) : Prop where
  hg : g < 18446744073709551616
  bits : ∀ j, f.testBit j = (g.testBit j || decide (j ∈ l))
  apart : ∀ j ∈ l, g.testBit j = false
  below : ∀ i ∈ l, ∀ j, g.testBit j = true → i < j
  low : ∀ i ∈ l, i < n
  cnt : pc 64 f = pc 64 g + l.length
  nd : l.Pairwise (· < ·)
theorem Took.step {f g n : Nat} {l : List Nat} (h : Took f g n l) (hn : n ≤ 64) (h0 : g ≠ 0) (hlow : ∀ j, n ≤ j → f.testBit j = false) : Took f (setN g (ctz g) 1 0) n (l ++ [ctz g]) := by
  have ht := ctz_pos g h.hg h0
  rcases ctz_cases g with ⟨e, _⟩ | ⟨_, hb, hl⟩
  · omega
  have hs := fun j => bit_set g (ctz g) 0 j h.hg ht (by decide)
  have hnl : ctz g ∉ l := fun hm => by have := h.apart _ hm; rw [hb] at this; exact Bool.noConfusion this
  have hfb : f.testBit (ctz g) = true := by rw [h.bits, hb]; rfl
  refine ⟨setN_lt _ _ _ _, fun j => ?_, fun j hj => ?_, fun i hi j hj => ?_, fun i hi => ?_, ?_, ?_⟩
  · rw [hs, h.bits]
    by_cases e : j = ctz g
    · subst e; rw [if_pos rfl, hb]; simp
    · rw [if_neg e]; simp [e]
  · rw [hs]
    by_cases e : j = ctz g
    · rw [if_pos e]; rfl
    · rw [if_neg e]
      rcases List.mem_append.1 hj with hj | hj
      · exact h.apart j hj
      · exact absurd (List.mem_singleton.1 hj) e
  · rw [hs] at hj
    by_cases e : j = ctz g
    · rw [if_pos e] at hj; exact Bool.noConfusion hj
    · rw [if_neg e] at hj
      rcases List.mem_append.1 hi with hi | hi
      · exact h.below i hi j hj
      · rw [List.mem_singleton.1 hi]
        by_cases hlt : j < ctz g
        · rw [hl j hlt] at hj; exact Bool.noConfusion hj
        · omega
  · rcases List.mem_append.1 hi with hi | hi
    · exact h.low i hi
    · rw [List.mem_singleton.1 hi]
      by_cases hc : n ≤ ctz g
      · rw [hlow _ hc] at hfb; exact Bool.noConfusion hfb
      · omega
  · have := pc_sub g (ctz g) h.hg ht hb
    rw [h.cnt, this, List.length_append]
    simp
    omega
  · refine List.pairwise_append.2 ⟨h.nd, List.pairwise_singleton _ _, fun a ha b hb' => ?_⟩
    rw [List.mem_singleton.1 hb']
    exact h.below a ha _ hb
theorem last_getD (l : List Nat) (h : 0 < l.length) : l.getD (l.length - 1) 0 ∈ l := by
  rw [List.getD_eq_getElem?_getD, List.getElem?_eq_getElem (show l.length - 1 < l.length by omega)]; exact List.getElem_mem _
/-- Behind the last that is taken. -/
theorem ending (b n f u g k : Nat) (l : List Nat) (i : Int) (hb : b ≤ 268435456) (hn : n ≤ 64) (hu : u < 256) (hf : f < 18446744073709551616) (h : Took f g n l) (hz : pc 64 g = 0) (hk : 70 < k) :
    atlaslaw04_PoolAll.j2 k (u : Int) (frames b l) i false (b : Int) (n : Int) (f : Int) (b : Int) (n : Int) (g : Int) = some true := by
  obtain ⟨k, rfl⟩ : ∃ q, k = q + 2 := ⟨k - 2, by omega⟩
  have hle := pc_le 64 f
  have hlen : l.length = pc 64 f := by have := h.cnt; omega
  have hg0 : ∀ j, g.testBit j = false := fun j => by
    by_cases hj : j < 64
    · exact (pc_zero_iff 64 g).1 hz j hj
    · exact bit_high g j h.hg (by omega)
  rw [atlaslaw04_PoolAll.j2, if_neg (by decide), free_f _ _ f hf, Option.bind_some, frames_len, if_pos (by rw [hlen]), free_f _ _ g h.hg, Option.bind_some, hz, atlaslaw04_PoolAll.j3, if_neg (by decide)]
  refine giving b n f u l hb hn hu hf (by omega) h.low (fun j => by rw [h.bits, hg0]; rfl) h.nd l.length k 0 g (by omega) (by omega) (by omega) h.hg fun j => ?_
  rw [hg0]
  exact (decide_eq_false (by rintro ⟨i', hi, _⟩; omega)).symm
theorem taking (b n f u : Nat) (hb : b ≤ 268435456) (hn : n ≤ 64) (hu : u < 256) (hf : f < 18446744073709551616) (hlow : ∀ j, n ≤ j → f.testBit j = false) (d : Nat) :
    ∀ (k g : Nat) (l : List Nat), Took f g n l → pc 64 g = d → 2 * d + 80 < k →
    atlaslaw04_PoolAll.l0 k (u : Int) (frames b l) (l.length : Int) (b : Int) (n : Int) (f : Int) (b : Int) (n : Int) (g : Int) = some true := by
  induction d with
  | zero =>
    intro k g l h hd hk
    obtain ⟨k, rfl⟩ : ∃ q, k = q + 1 := ⟨k - 1, by omega⟩
    rw [atlaslaw04_PoolAll.l0]
    by_cases h64 : (l.length : Int) < 64
    · rw [if_pos h64, free_f _ _ g h.hg, Option.bind_some, hd, decide_eq_false (by decide)]
      exact ending b n f u g k l _ hb hn hu hf h hd (by omega)
    · rw [if_neg h64]
      exact ending b n f u g k l _ hb hn hu hf h hd (by omega)
  | succ d ih =>
    intro k g l h hd hk
    obtain ⟨k, rfl⟩ : ∃ q, k = q + 2 := ⟨k - 2, by omega⟩
    have h0 : g ≠ 0 := by
      rintro rfl
      have := (pc_zero_iff 64 0).2 fun j _ => by simp
      omega
    have hle := pc_le 64 f
    have hcnt := h.cnt
    have hnext := h.step hn h0 hlow
    have ht := ctz_pos g h.hg h0
    rcases ctz_cases g with ⟨e, _⟩ | ⟨_, hbit, _⟩
    · omega
    have hpc : pc 64 (setN g (ctz g) 1 0) = d := by have := pc_sub g (ctz g) h.hg ht hbit; omega
    have hstep := ih k _ _ hnext hpc (by omega)
    have his := is_f b n g (b + ctz g) hb hn h.hg (by omega)
    rw [decide_eq_false (by
      rintro ⟨_, _, h3⟩
      rw [show b + ctz g - b = ctz g by omega, get1 g _ h.hg ht, hbit] at h3
      exact absurd h3 (by decide))] at his
    rw [atlaslaw04_PoolAll.l0, if_pos (by omega), free_f _ _ g h.hg, Option.bind_some, hd, decide_eq_true (by omega), atlaslaw04_PoolAll.j2, if_pos rfl, take_f b n g hb h.hg h0, Option.bind_some, if_pos rfl, frames_len]
    have happ : frames b l ++ [((b + ctz g : Nat) : Int)] = frames b (l ++ [ctz g]) := by simp [frames]
    have hlen' : wrap64 ((l.length : Int) + 1) = ((l ++ [ctz g]).length : Int) := by
      rw [w64_small _ (by omega) (by omega), List.length_append]; simp
    have hin : (pool_Is.f (b : Int) (n : Int) (g : Int) ((b + ctz g : Nat) : Int)).bind (fun t => if t = true then some false else (if l.length < 17592186044416 then atlaslaw04_PoolAll.l0 k (u : Int) (frames b l ++ [((b + ctz g : Nat) : Int)]) (wrap64 ((l.length : Int) + 1)) (b : Int) (n : Int) (f : Int) (b : Int) (n : Int) ((setN g (ctz g) 1 0 : Nat) : Int) else none)) = some true := by
      rw [his, Option.bind_some, if_neg (by decide), if_pos (by omega), happ, hlen']
      exact hstep
    by_cases hl0 : (l.length : Int) > 0
    · have hq : l.length - 1 < l.length := by omega
      have hlast := h.below _ (last_getD l (by omega)) _ hbit
      rw [if_pos hl0, w64_small _ (by omega) (by omega), show ((l.length : Int) - 1) = ((l.length - 1 : Nat) : Int) by omega, if_pos (Int.natCast_nonneg _), if_pos (Int.ofNat_lt.2 hq), rd_frames b l _ hq, if_neg (by
        show ¬ (((b + l.getD (l.length - 1) 0 : Nat) : Int) ≥ ((b + ctz g : Nat) : Int))
        omega)]
      exact hin
    · rw [if_neg hl0]
      exact hin
theorem law (b : Nat) (m : Int) (f u : Nat) (hb : b < 18446744073709551616) (hf : f < 18446744073709551616) (hu : u < 256) : atlaslaw04_PoolAll.f 400 (b : Int) m (f : Int) (u : Int) = some true := by
  unfold atlaslaw04_PoolAll.f
  obtain ⟨r, hr, hi⟩ := rright_f b m f hf 400 (by omega)
  unfold atlaslaw04_awake.f
  rw [Option.bind_some, if_pos rfl, hr, Option.bind_some]
  cases r with
  | false => rw [show (!false) = true from rfl, atlaslaw04_PoolAll.j0, if_pos rfl]; rfl
  | true =>
    obtain ⟨h0, h1, h2, h3⟩ := hi.1 rfl
    obtain ⟨n, rfl⟩ := Int.eq_ofNat_of_zero_le h0
    rw [show (!true) = false from rfl, atlaslaw04_PoolAll.j0, if_neg (by decide)]
    exact taking b n f u h2 (by omega) hu hf (fun j hj => h3 j (by omega)) (pc 64 f) 399 f [] ⟨hf, fun j => by simp, fun j hj => absurd hj (by simp), fun i hi => absurd hi (by simp), fun i hi => absurd hi (by simp), by simp, List.Pairwise.nil⟩ rfl (by have := pc_le 64 f; omega)
end Go.Proofs.YtojklokbdmelhaaDoor.SPoolAll
