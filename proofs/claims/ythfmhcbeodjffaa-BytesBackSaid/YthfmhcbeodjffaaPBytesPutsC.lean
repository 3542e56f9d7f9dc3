/- What the printed functions of the package bytes, and of its reference, answer: lists of natural numbers below 256, the lowest first. -/
import Derived.Test.YthfmhcbeodjffaaPBytesPutsB
set_option linter.unusedVariables false
set_option linter.unusedSimpArgs false
namespace Go.Proofs.Ythfmhcbeodjffaa.PBytesPuts
open Go.RowKit Go.Proofs.YthfmhcbeodjffaaW.PrintWords Go.Proofs.YthfmhcbeodjffaaW.PrintMore Go.Proofs.Ythfmhcbeodjffaa.Bits

/-- A number's lowest bytes. -/
def bys (v n : Nat) : List Nat := (List.range n).map fun i => v / 256 ^ i % 256
/-- The number of some bytes. -/
def val : List Nat → Nat
  | [] => 0
  | x :: xs => x + 256 * val xs
/-- Natural numbers, as the printed lists hold them. -/
def up (l : List Nat) : List Int := l.map fun (x : Nat) => (x : Int)
theorem up_len (l : List Nat) : (up l).length = l.length := by simp [up]
theorem up_app (l m : List Nat) : up (l ++ m) = up l ++ up m := by simp [up]
theorem rd_up (l : List Nat) (i : Nat) : rd (up l) (i : Int) = ((l.getD i 0 : Nat) : Int) := by
  simp [rd, up, List.getD_eq_getElem?_getD, List.getElem?_map]
  cases l[i]? <;> simp
theorem bys_len (v n : Nat) : (bys v n).length = n := by simp [bys]
theorem bys_succ (v n : Nat) : bys v (n + 1) = bys v n ++ [v / 256 ^ n % 256] := by simp [bys, List.range_succ]
theorem bys_cons (v n : Nat) : bys v (n + 1) = v % 256 :: bys (v / 256) n := by
  simp only [bys, List.range_succ_eq_map, List.map_cons, List.map_map]
  simp only [Nat.pow_zero, Nat.div_one, List.cons.injEq, true_and]
  refine List.map_congr_left fun i _ => ?_
  simp only [Function.comp, Nat.succ_eq_add_one]
  rw [Nat.div_div_eq_div_mul, Nat.pow_succ, Nat.mul_comm]
theorem bys_lt (v n : Nat) : ∀ x ∈ bys v n, x < 256 := by
  intro x hx
  simp only [bys, List.mem_map] at hx
  obtain ⟨i, _, rfl⟩ := hx
  exact Nat.mod_lt _ (by decide)
theorem bys_app (v n m : Nat) : bys v (n + m) = bys v n ++ bys (v / 256 ^ n) m := by
  induction n generalizing v with
  | zero => simp [bys]
  | succ n ih =>
    rw [show n + 1 + m = (n + m) + 1 by omega, bys_cons, ih, bys_cons, Nat.div_div_eq_div_mul, Nat.pow_succ, Nat.mul_comm 256]
    rfl
theorem val_app (l m : List Nat) : val (l ++ m) = val l + 256 ^ l.length * val m := by
  induction l with
  | nil => simp [val]
  | cons x xs ih =>
    simp only [List.cons_append, val, ih, List.length_cons, Nat.pow_succ, Nat.mul_add]
    rw [Nat.mul_comm (256 ^ xs.length) 256, Nat.mul_assoc]
    omega
theorem val_lt (l : List Nat) (h : ∀ x ∈ l, x < 256) : val l < 256 ^ l.length := by
  induction l with
  | nil => simp [val]
  | cons x xs ih =>
    have := ih fun y hy => h y (List.mem_cons_of_mem _ hy)
    have := h x (by simp)
    simp only [val, List.length_cons, Nat.pow_succ]
    omega
theorem val_bys (v n : Nat) : val (bys v n) = v % 256 ^ n := by
  induction n generalizing v with
  | zero => simp [bys, val, Nat.mod_one]
  | succ n ih =>
    rw [bys_cons, val, ih, Nat.pow_succ, Nat.mul_comm (256 ^ n), Nat.mod_mul]
theorem bys_val (l : List Nat) (h : ∀ x ∈ l, x < 256) : bys (val l) l.length = l := by
  induction l with
  | nil => simp [bys]
  | cons x xs ih =>
    have h1 := h x (by simp)
    have h2 := ih fun y hy => h y (List.mem_cons_of_mem _ hy)
    rw [List.length_cons, bys_cons, val]
    rw [show (x + 256 * val xs) % 256 = x by omega, show (x + 256 * val xs) / 256 = val xs by omega, h2]
theorem take_succ' (l : List Nat) (i : Nat) (h : i < l.length) : l.take (i + 1) = l.take i ++ [l.getD i 0] := by
  rw [List.take_succ_eq_append_getElem h]
  simp [List.getD_eq_getElem?_getD, List.getElem?_eq_getElem h]
theorem drop_cons' (l : List Nat) (i : Nat) (h : i < l.length) : l.drop i = l.getD i 0 :: l.drop (i + 1) := by
  rw [List.drop_eq_getElem_cons h]
  simp [List.getD_eq_getElem?_getD, List.getElem?_eq_getElem h]
theorem pow256 (i : Nat) : 256 ^ i = 2 ^ (8 * i) := by rw [Nat.pow_mul]
theorem pow256_le (i : Nat) (h : i ≤ 8) : 256 ^ i ≤ 18446744073709551616 := by rw [pow256]; exact two_pow_le _ (by omega)
theorem get8 (v i : Nat) (hi : i < 8) : getN v (i * 8) 8 = v / 256 ^ i % 256 := by
  rw [getN_mod v (i * 8) 8 (by omega) (by omega), pow256, Nat.mul_comm i 8]
theorem set8 (v i b : Nat) (hi : i < 8) (hv : v < 256 ^ i) (hb : b < 256) : setN v (i * 8) 8 b = v + 256 ^ i * b := by
  have hv2 : v < 2 ^ (8 * i) := by rw [← pow256]; exact hv
  have h8 := pow256_le i (by omega)
  refine eq_of_bits fun j => ?_
  rw [testBit_setN _ _ _ _ _ (by omega), Nat.add_comm v, pow256, Nat.testBit_two_pow_mul_add b hv2 j]
  by_cases h1 : j < 8 * i
  · rw [if_neg (by omega), if_pos h1]
  · rw [if_neg h1]
    by_cases h2 : j < i * 8 + 8
    · rw [if_pos (by omega), Nat.mul_comm i 8]
    · rw [if_neg (by omega), Nat.testBit_lt_two_pow (Nat.lt_of_lt_of_le hv2 (Nat.pow_le_pow_right (by decide) (by omega))),
        Nat.testBit_lt_two_pow (Nat.lt_of_lt_of_le (show b < 2 ^ 8 by omega) (Nat.pow_le_pow_right (by decide) (by omega)))]

/-! ### Put -/
theorem put_l0 (v s : Nat) (hv : v < 18446744073709551616) (hs : s ≤ 8) (d : Nat) : ∀ k i : Nat, i ≤ s → s - i = d → d < k →
    bytes_Put.l0 k (v : Int) (up (bys v i ++ List.replicate (s - i) 0)) (s : Int) (i : Int) = some (up (bys v s)) := by
  induction d with
  | zero =>
    intro k i h1 h2 hk
    obtain ⟨k, rfl⟩ : ∃ m, k = m + 1 := ⟨k - 1, by omega⟩
    simp only [bytes_Put.l0]
    rw [if_neg (by omega)]
    obtain rfl : i = s := by omega
    simp
  | succ d ih =>
    intro k i h1 h2 hk
    obtain ⟨k, rfl⟩ : ∃ m, k = m + 1 := ⟨k - 1, by omega⟩
    simp only [bytes_Put.l0]
    rw [if_pos (by omega), w64_small ((i : Int) * 8) (by omega) (by omega), show ((i : Int) * 8) = ((i * 8 : Nat) : Int) by simp,
      show (8 : Int) = ((8 : Nat) : Int) from rfl, get_f v (i * 8) 8 hv (by omega) (by omega)]
    simp only [Option.bind_some]
    rw [if_pos (by omega), if_pos (by rw [up_len, List.length_append, bys_len, List.length_replicate]; omega), w64_small _ (by omega) (by omega), get8 v i (by omega)]
    have e : (up (bys v i ++ List.replicate (s - i) 0)).set ((i : Int)).toNat (((v / 256 ^ i % 256 : Nat) : Int) % 256) = up (bys v (i + 1) ++ List.replicate (s - (i + 1)) 0) := by
      rw [show s - i = (s - (i + 1)) + 1 by omega, List.replicate_succ, up_app, up_app]
      rw [show (i : Int).toNat = (up (bys v i)).length by rw [up_len, bys_len]; simp]
      rw [List.set_append_right _ _ (by omega), Nat.sub_self, bys_succ, up_app]
      simp only [up, List.map_cons, List.map_nil, List.set_cons_zero, List.append_assoc, List.cons_append, List.nil_append]
      rw [show ((v / 256 ^ i % 256 : Nat) : Int) % 256 = ((v / 256 ^ i % 256 : Nat) : Int) by omega]
    rw [e]
    exact ih k (i + 1) (by omega) (by omega) (by omega)
theorem put_f (v s k : Nat) (hv : v < 18446744073709551616) (hs : s ≤ 8) (hk : s < k) : bytes_Put.f k (v : Int) (s : Int) = some (up (bys v s)) := by
  unfold bytes_Put.f
  rw [if_pos (by omega), if_pos (by omega)]
  have := put_l0 v s hv hs s k 0 (by omega) (by omega) hk
  simpa [bys, up] using this

/-! ### Low -/
theorem low_f (v s : Nat) (hv : v < 18446744073709551616) (hs : s ≤ 8) : bytes_Low.f (v : Int) (s : Int) = some ((v % 256 ^ s : Nat) : Int) := by
  unfold bytes_Low.f
  rw [w64_small ((s : Int) * 8) (by omega) (by omega), show ((s : Int) * 8) = ((s * 8 : Nat) : Int) by simp, show (0 : Int) = ((0 : Nat) : Int) from rfl, get_f v 0 (s * 8) hv (by omega) (by omega)]
  simp only [Option.bind_some]
  rw [getN_mod v 0 (s * 8) (by omega) (by omega), pow256, Nat.mul_comm s 8]
  simp

/-! ### Get -/
theorem get_l0 (b : List Nat) (hb : ∀ x ∈ b, x < 256) (m : Nat) (hm : m ≤ b.length) (hm8 : m ≤ 8) (d : Nat) : ∀ k i : Nat, i ≤ m → m - i = d → d < k →
    bytes_Get.l0 k (up b) ((val (b.take i) : Nat) : Int) (m : Int) (i : Int) = some ((val (b.take m) : Nat) : Int) := by
  induction d with
  | zero =>
    intro k i h1 h2 hk
    obtain ⟨k, rfl⟩ : ∃ m, k = m + 1 := ⟨k - 1, by omega⟩
    simp only [bytes_Get.l0]
    rw [if_neg (by omega)]
    obtain rfl : i = m := by omega
    rfl
  | succ d ih =>
    intro k i h1 h2 hk
    obtain ⟨k, rfl⟩ : ∃ m, k = m + 1 := ⟨k - 1, by omega⟩
    have hx : b.getD i 0 < 256 := by
      have : b.getD i 0 ∈ b := by
        rw [List.getD_eq_getElem?_getD, List.getElem?_eq_getElem (show i < b.length by omega)]
        exact List.getElem_mem _
      exact hb _ this
    have hl := val_lt (b.take i) fun x hx => hb x (List.mem_of_mem_take hx)
    rw [List.length_take, Nat.min_eq_left (by omega)] at hl
    have h8 := pow256_le i (by omega)
    simp only [bytes_Get.l0]
    rw [if_pos (by omega), if_pos (by omega), if_pos (by rw [up_len]; omega), rd_up, wrap_u _ (by omega), w64_small ((i : Int) * 8) (by omega) (by omega), show ((i : Int) * 8) = ((i * 8 : Nat) : Int) by simp,
      show (8 : Int) = ((8 : Nat) : Int) from rfl, set_f _ _ _ _ (by omega) (by omega) (by omega), set8 _ _ _ (by omega) hl hx]
    simp only [Option.bind_some]
    rw [w64_small _ (by omega) (by omega)]
    have e : val (b.take i) + 256 ^ i * b.getD i 0 = val (b.take (i + 1)) := by
      rw [take_succ' b i (by omega), val_app]
      simp [val, List.length_take, Nat.min_eq_left (show i ≤ b.length by omega)]
    rw [e]
    exact ih k (i + 1) (by omega) (by omega) (by omega)
theorem mn_len (n : Nat) : mn (n : Int) 8 = ((min n 8 : Nat) : Int) := by unfold mn; split <;> omega
theorem getb_f (b : List Nat) (hb : ∀ x ∈ b, x < 256) (k : Nat) (hk : 8 < k) : bytes_Get.f k (up b) = some ((val (b.take 8) : Nat) : Int) := by
  unfold bytes_Get.f
  rw [up_len, mn_len]
  have := get_l0 b hb (min b.length 8) (by omega) (by omega) (min b.length 8) k 0 (by omega) (by omega) (by omega)
  rw [show b.take (min b.length 8) = b.take 8 by rw [Nat.min_comm, ← List.take_take, List.take_length]] at this
  simpa [val] using this

/-! ### the sizes -/
theorem size_f (n : Int) : bytes_Size.f n = some (decide (n = 1 ∨ n = 2 ∨ n = 4 ∨ n = 8)) := by
  unfold bytes_Size.f
  by_cases h1 : n = 1
  · simp [h1]
  · by_cases h2 : n = 2
    · simp [h2]
    · by_cases h4 : n = 4
      · simp [h4]
      · simp [h1, h2, h4]; rfl
theorem pick_f (n : Int) (h : 0 ≤ n) (h1 : n ≤ 255) : ∃ s : Nat, (s = 1 ∨ s = 2 ∨ s = 4 ∨ s = 8) ∧ atlasref02_Pick.f n = some (s : Int) := by
  have e : Int.tmod n 4 = n % 4 := Int.tmod_eq_emod_of_nonneg h
  unfold atlasref02_Pick.f
  simp only [Option.bind_some]
  rw [e, if_pos (by omega), if_pos (by simp; omega)]
  have : n % 4 = 0 ∨ n % 4 = 1 ∨ n % 4 = 2 ∨ n % 4 = 3 := by omega
  rcases this with h | h | h | h
  · exact ⟨1, by omega, by rw [h]; rfl⟩
  · exact ⟨2, by omega, by rw [h]; rfl⟩
  · exact ⟨4, by omega, by rw [h]; rfl⟩
  · exact ⟨8, by omega, by rw [h]; rfl⟩

/-- A list of bytes that came in, as natural numbers. -/
theorem nats_of (l : List Int) (h : ∀ x ∈ l, (Lit.int .u8 x).wf = true) : ∃ b : List Nat, l = up b ∧ ∀ x ∈ b, x < 256 := by
  induction l with
  | nil => exact ⟨[], rfl, by simp⟩
  | cons x xs ih =>
    obtain ⟨b, hb, hb2⟩ := ih fun y hy => h y (List.mem_cons_of_mem _ hy)
    have hx := h x (by simp)
    have hx' : 0 ≤ x ∧ x < 256 := by
      simp [Lit.wf, IntKind.min, IntKind.max, IntKind.signed, IntKind.bits] at hx
      omega
    refine ⟨x.toNat :: b, ?_, ?_⟩
    · rw [hb]
      simp only [up, List.map_cons, List.cons.injEq, and_true]
      omega
    · intro y hy
      rcases List.mem_cons.1 hy with rfl | hy
      · omega
      · exact hb2 y hy
theorem awake_f (k : Nat) (hk : 8 < k) : atlaslaw02_awake.f k = some true := by
  unfold atlaslaw02_awake.f
  have p := put_f 4660 2 k (by decide) (by decide) (by omega)
  have g := getb_f (bys 4660 2) (bys_lt _ _) k hk
  have z := getb_f [] (by simp) k hk
  have l := low_f 4660 1 (by decide) (by decide)
  have e : up (bys 4660 2) = [52, 18] := by decide
  rw [e] at p g
  have p' : bytes_Put.f k 4660 2 = some [52, 18] := p
  have l' : bytes_Low.f 4660 1 = some 52 := l
  have g' : bytes_Get.f k [52, 18] = some 4660 := g
  have z' : bytes_Get.f k [] = some 0 := z
  rw [p']
  simp only [Option.bind_some]
  rw [if_pos (by decide +kernel), g']
  simp only [Option.bind_some, if_true]
  rw [l']
  simp only [Option.bind_some, if_true, size_f]
  rw [z']
  rfl
end Go.Proofs.Ythfmhcbeodjffaa.PBytesPuts
