/- How many bits of a word are set: what math/bits.OnesCount64 reckons by halves, quarters and bytes is the sum of the bits. Plain numbers. -/
import Derived.Test.YtjalglcmpnjeoaaDoorBits
set_option linter.unusedVariables false
set_option linter.unusedSimpArgs false
namespace Go.Proofs.YtjalglcmpnjeoaaDoor.Pop
open Go.RowKit Go.Proofs.YtjalglcmpnjeoaaDoorW.PrintWords Go.Proofs.YtjalglcmpnjeoaaDoor.Bits

/-- The number of some bytes, the lowest first. -/
def W : List Nat → Nat
  | [] => 0
  | b :: bs => b + 256 * W bs
/-- So many equal bytes. -/
def M (c : Nat) : Nat → Nat
  | 0 => 0
  | n + 1 => c + 256 * M c n
theorem and_split (a b c d : Nat) (ha : a < 256) (hc : c < 256) : (a + 256 * b) &&& (c + 256 * d) = (a &&& c) + 256 * (b &&& d) := by
  have hac : a &&& c < 2 ^ 8 := Nat.and_lt_two_pow _ (by omega)
  refine eq_of_bits fun j => ?_
  rw [Nat.add_comm a, Nat.add_comm c, Nat.add_comm (a &&& c), show (256 : Nat) = 2 ^ 8 from rfl, Nat.testBit_and, Nat.testBit_two_pow_mul_add _ (show a < 2 ^ 8 from ha), Nat.testBit_two_pow_mul_add _ (show c < 2 ^ 8 from hc),
    Nat.testBit_two_pow_mul_add _ hac]
  by_cases h : j < 8
  · simp [h]
  · simp [h]
theorem W_and (c : Nat) (hc : c < 256) (bs : List Nat) (h : ∀ b ∈ bs, b < 256) : W bs &&& M c bs.length = W (bs.map fun b => b &&& c) := by
  induction bs with
  | nil => simp [W]
  | cons b bs ih =>
    rw [List.length_cons, W, M, and_split _ _ _ _ (h b (by simp)) hc, ih fun x hx => h x (List.mem_cons_of_mem _ hx)]
    rfl
theorem low_and (u t c p : Nat) (hu : u < 2 ^ p) (hc : c < 2 ^ p) : (u + 2 ^ p * t) &&& c = u &&& c := by
  refine eq_of_bits fun j => ?_
  rw [Nat.testBit_and, Nat.testBit_and, Nat.add_comm u, Nat.testBit_two_pow_mul_add _ hu]
  by_cases h : j < p
  · simp [h]
  · rw [Nat.testBit_lt_two_pow (Nat.lt_of_lt_of_le hc (Nat.pow_le_pow_right (by decide) (show p ≤ j by omega)))]; simp
theorem W_shr1 (c : Nat) (hc : c < 128) (bs : List Nat) (h : ∀ b ∈ bs, b < 256) : W bs / 2 &&& M c bs.length = W (bs.map fun b => b / 2 &&& c) := by
  induction bs with
  | nil => simp [W]
  | cons b bs ih =>
    have hb := h b (by simp)
    rw [List.length_cons, W, M, show (b + 256 * W bs) / 2 = (b / 2 + 128 * (W bs % 2)) + 256 * (W bs / 2) by omega, and_split _ _ _ _ (by omega) (by omega), ih fun x hx => h x (List.mem_cons_of_mem _ hx)]
    have := low_and (b / 2) (W bs % 2) c 7 (by omega) (by omega)
    rw [show (128 : Nat) = 2 ^ 7 from rfl, this]
    rfl
theorem W_shr2 (c : Nat) (hc : c < 64) (bs : List Nat) (h : ∀ b ∈ bs, b < 256) : W bs / 4 &&& M c bs.length = W (bs.map fun b => b / 4 &&& c) := by
  induction bs with
  | nil => simp [W]
  | cons b bs ih =>
    have hb := h b (by simp)
    rw [List.length_cons, W, M, show (b + 256 * W bs) / 4 = (b / 4 + 64 * (W bs % 4)) + 256 * (W bs / 4) by omega, and_split _ _ _ _ (by omega) (by omega), ih fun x hx => h x (List.mem_cons_of_mem _ hx)]
    have := low_and (b / 4) (W bs % 4) c 6 (by omega) (by omega)
    rw [show (64 : Nat) = 2 ^ 6 from rfl, this]
    rfl
theorem W_mod16 (bs : List Nat) (h : ∀ b ∈ bs, b ≤ 68 ∧ b % 16 ≤ 4) : W bs % 16 ≤ 4 := by
  cases bs with
  | nil => simp [W]
  | cons b bs =>
    have := (h b (by simp)).2
    rw [W]
    omega
theorem W_shr4 (bs : List Nat) (h : ∀ b ∈ bs, b ≤ 68 ∧ b % 16 ≤ 4) : W bs / 16 + W bs &&& M 15 bs.length = W (bs.map fun b => (b / 16 + b) % 16) := by
  induction bs with
  | nil => simp [W]
  | cons b bs ih =>
    have hb := h b (by simp)
    have hm := W_mod16 bs fun x hx => h x (List.mem_cons_of_mem _ hx)
    rw [List.length_cons, W, M, show (b + 256 * W bs) / 16 + (b + 256 * W bs) = (b / 16 + b + 16 * (W bs % 16)) + 256 * (W bs / 16 + W bs) by omega, and_split _ _ _ _ (by omega) (by omega), ih fun x hx => h x (List.mem_cons_of_mem _ hx)]
    have : (b / 16 + b + 16 * (W bs % 16)) &&& 15 = (b / 16 + b) % 16 := by
      rw [show (15 : Nat) = 2 ^ 4 - 1 from rfl, Nat.and_two_pow_sub_one_eq_mod]; omega
    rw [this]
    rfl
theorem W_add (f g : Nat → Nat) (bs : List Nat) : W (bs.map f) + W (bs.map g) = W (bs.map fun b => f b + g b) := by
  induction bs with
  | nil => simp [W]
  | cons b bs ih => simp only [List.map_cons, W, ← ih]; omega
def c1 (b : Nat) : Nat := (b / 2 &&& 85) + (b &&& 85)
def c2 (b : Nat) : Nat := (b / 4 &&& 51) + (b &&& 51)
def c3 (b : Nat) : Nat := (b / 16 + b) % 16
/-- A word's bits, counted from the lowest on. -/
def pc : Nat → Nat → Nat
  | 0, _ => 0
  | m + 1, x => x % 2 + pc m (x / 2)
theorem bytes_ok : ∀ b : Nat, b < 256 → c1 b < 256 ∧ (c2 (c1 b) ≤ 68 ∧ c2 (c1 b) % 16 ≤ 4) ∧ c3 (c2 (c1 b)) ≤ 8 ∧ c3 (c2 (c1 b)) = pc 8 b := by decide +kernel
theorem pc_split (m b y : Nat) : ∀ k, b < 2 ^ k → pc (k + m) (b + 2 ^ k * y) = pc k b + pc m y := by
  intro k
  induction k generalizing b with
  | zero => intro h; simp [pc]; simp at h; subst h; simp
  | succ k ih =>
    intro h
    rw [Nat.pow_succ] at h
    have e : (b + 2 ^ (k + 1) * y) = b + 2 * (2 ^ k * y) := by rw [Nat.pow_succ, Nat.mul_comm (2 ^ k) 2, Nat.mul_assoc]
    rw [show k + 1 + m = (k + m) + 1 by omega, pc, pc, e, show (b + 2 * (2 ^ k * y)) % 2 = b % 2 by omega, show (b + 2 * (2 ^ k * y)) / 2 = b / 2 + 2 ^ k * y by omega, ih _ (by omega)]
    omega
theorem pc_W (bs : List Nat) (h : ∀ b ∈ bs, b < 256) : pc (8 * bs.length) (W bs) = (bs.map fun b => pc 8 b).sum := by
  induction bs with
  | nil => simp [pc]
  | cons b bs ih =>
    rw [List.length_cons, show 8 * (bs.length + 1) = 8 + 8 * bs.length by omega, W, show (256 : Nat) = 2 ^ 8 from rfl, pc_split _ _ _ 8 (h b (by simp)), ih fun x hx => h x (List.mem_cons_of_mem _ hx)]
    simp
/-- The steps over whole words. -/
def s1 (x : Nat) : Nat := (x / 2 &&& 6148914691236517205) + (x &&& 6148914691236517205)
def s2 (x : Nat) : Nat := (x / 4 &&& 3689348814741910323) + (x &&& 3689348814741910323)
def s3 (x : Nat) : Nat := x / 16 + x &&& 1085102592571150095
theorem div_low (a b p : Nat) (h : a < p) : (a + p * b) / p = b := by
  rw [Nat.add_mul_div_left _ _ (by omega), Nat.div_eq_of_lt h, Nat.zero_add]
theorem add8 (a0 a1 a2 a3 a4 a5 a6 a7 b0 b1 b2 b3 b4 b5 b6 b7 : Nat) : W [a0, a1, a2, a3, a4, a5, a6, a7] + W [b0, b1, b2, b3, b4, b5, b6, b7] = W [a0 + b0, a1 + b1, a2 + b2, a3 + b3, a4 + b4, a5 + b5, a6 + b6, a7 + b7] := by
  simp only [W, Nat.mul_add]
  omega
theorem sh8 (a0 a1 a2 a3 a4 a5 a6 a7 : Nat) (h : a0 < 256) : W [a0, a1, a2, a3, a4, a5, a6, a7] / 256 = W [a1, a2, a3, a4, a5, a6, a7, 0] := by
  rw [W, div_low _ _ _ h]
  simp only [W]
theorem sh16 (a0 a1 a2 a3 a4 a5 a6 a7 : Nat) (h : a0 < 256) (h1 : a1 < 256) : W [a0, a1, a2, a3, a4, a5, a6, a7] / 65536 = W [a2, a3, a4, a5, a6, a7, 0, 0] := by
  rw [show (65536 : Nat) = 256 * 256 from rfl, ← Nat.div_div_eq_div_mul, sh8 _ _ _ _ _ _ _ _ h, sh8 _ _ _ _ _ _ _ _ h1]
theorem sh32 (a0 a1 a2 a3 a4 a5 a6 a7 : Nat) (h : a0 < 256) (h1 : a1 < 256) (h2 : a2 < 256) (h3 : a3 < 256) : W [a0, a1, a2, a3, a4, a5, a6, a7] / 4294967296 = W [a4, a5, a6, a7, 0, 0, 0, 0] := by
  rw [show (4294967296 : Nat) = 65536 * 65536 from rfl, ← Nat.div_div_eq_div_mul, sh16 _ _ _ _ _ _ _ _ h h1, sh16 _ _ _ _ _ _ _ _ h2 h3]
theorem W_lt (bs : List Nat) (n : Nat) (hl : bs.length = n) (h : ∀ b ∈ bs, b < 256) : W bs < 256 ^ n := by
  subst hl
  induction bs with
  | nil => simp [W]
  | cons b bs ih =>
    have := ih fun x hx => h x (List.mem_cons_of_mem _ hx)
    have := h b (by simp)
    rw [W, List.length_cons, Nat.pow_succ]
    omega
theorem W8_small (a0 a1 a2 a3 a4 a5 a6 a7 : Nat) (h0 : a0 < 256) (h1 : a1 < 256) (h2 : a2 < 256) (h3 : a3 < 256) (h4 : a4 < 256) (h5 : a5 < 256) (h6 : a6 < 256) (h7 : a7 < 128) : W [a0, a1, a2, a3, a4, a5, a6, a7] < 9223372036854775808 := by
  have hz : W [a0, a1, a2, a3, a4, a5, a6] < 72057594037927936 := W_lt _ 7 rfl (by simp; omega)
  have e : W [a0, a1, a2, a3, a4, a5, a6, a7] = W [a0, a1, a2, a3, a4, a5, a6] + 72057594037927936 * a7 := by simp only [W]; omega
  omega
theorem fold8 (e0 e1 e2 e3 e4 e5 e6 e7 : Nat) (h0 : e0 ≤ 8) (h1 : e1 ≤ 8) (h2 : e2 ≤ 8) (h3 : e3 ≤ 8) (h4 : e4 ≤ 8) (h5 : e5 ≤ 8) (h6 : e6 ≤ 8) (h7 : e7 ≤ 8) (x y z : Nat)
    (hx : x = W [e0, e1, e2, e3, e4, e5, e6, e7] + W [e0, e1, e2, e3, e4, e5, e6, e7] / 256) (hy : y = x + x / 65536) (hz : z = y + y / 4294967296) :
    z % 128 = e0 + e1 + e2 + e3 + e4 + e5 + e6 + e7 ∧ x < 9223372036854775808 ∧ y < 9223372036854775808 ∧ z < 9223372036854775808 := by
  rw [sh8 _ _ _ _ _ _ _ _ (by omega), add8] at hx
  rw [hx, sh16 _ _ _ _ _ _ _ _ (by omega) (by omega), add8] at hy
  rw [hy, sh32 _ _ _ _ _ _ _ _ (by omega) (by omega) (by omega) (by omega), add8] at hz
  refine ⟨?_, ?_, ?_, ?_⟩
  · rw [hz, W]
    generalize W _ = r
    omega
  · rw [hx]; exact W8_small _ _ _ _ _ _ _ _ (by omega) (by omega) (by omega) (by omega) (by omega) (by omega) (by omega) (by omega)
  · rw [hy]; exact W8_small _ _ _ _ _ _ _ _ (by omega) (by omega) (by omega) (by omega) (by omega) (by omega) (by omega) (by omega)
  · rw [hz]; exact W8_small _ _ _ _ _ _ _ _ (by omega) (by omega) (by omega) (by omega) (by omega) (by omega) (by omega) (by omega)
theorem M85 : M 85 8 = 6148914691236517205 := by decide
theorem M51 : M 51 8 = 3689348814741910323 := by decide
theorem M15 : M 15 8 = 1085102592571150095 := by decide
theorem all_map {f : Nat → Nat} {P Q : Nat → Prop} {bs : List Nat} (h : ∀ b ∈ bs, P b) (hf : ∀ b, P b → Q (f b)) : ∀ b ∈ bs.map f, Q b := by
  intro b hb
  obtain ⟨a, ha, rfl⟩ := List.mem_map.1 hb
  exact hf a (h a ha)
theorem step1 (bs : List Nat) (hl : bs.length = 8) (h : ∀ b ∈ bs, b < 256) : s1 (W bs) = W (bs.map c1) := by
  have a := W_shr1 85 (by decide) bs h
  have b := W_and 85 (by decide) bs h
  rw [hl, M85] at a b
  rw [s1, a, b, W_add]
  rfl
theorem step2 (bs : List Nat) (hl : bs.length = 8) (h : ∀ b ∈ bs, b < 256) : s2 (W bs) = W (bs.map c2) := by
  have a := W_shr2 51 (by decide) bs h
  have b := W_and 51 (by decide) bs h
  rw [hl, M51] at a b
  rw [s2, a, b, W_add]
  rfl
theorem step3 (bs : List Nat) (hl : bs.length = 8) (h : ∀ b ∈ bs, b ≤ 68 ∧ b % 16 ≤ 4) : s3 (W bs) = W (bs.map c3) := by
  have a := W_shr4 bs h
  rw [hl, M15] at a
  exact a
/-- A word is the number of its bytes. -/
def bytes (x : Nat) : Nat → List Nat
  | 0 => []
  | n + 1 => x % 256 :: bytes (x / 256) n
theorem bytes_len (x n : Nat) : (bytes x n).length = n := by
  induction n generalizing x with
  | zero => rfl
  | succ n ih => simp [bytes, ih]
theorem bytes_lt (x n : Nat) : ∀ b ∈ bytes x n, b < 256 := by
  induction n generalizing x with
  | zero => simp [bytes]
  | succ n ih =>
    intro b hb
    rcases List.mem_cons.1 hb with rfl | hb
    · exact Nat.mod_lt _ (by decide)
    · exact ih _ b hb
theorem W_bytes (x n : Nat) (h : x < 256 ^ n) : W (bytes x n) = x := by
  induction n generalizing x with
  | zero => simp at h; simp [bytes, W, h]
  | succ n ih =>
    rw [Nat.pow_succ] at h
    rw [bytes, W, ih _ (by omega)]
    omega
/-- What the steps come to: the sum of the bits; and no sum on the way leaves the word. -/
theorem steps (v : Nat) (hv : v < 18446744073709551616) : ∃ x y z : Nat, x = s3 (s2 (s1 v)) + s3 (s2 (s1 v)) / 256 ∧ y = x + x / 65536 ∧ z = y + y / 4294967296 ∧
    z % 128 = pc 64 v ∧ x < 9223372036854775808 ∧ y < 9223372036854775808 ∧ z < 9223372036854775808 ∧ s1 v < 18446744073709551616 ∧ s2 (s1 v) < 9223372036854775808 := by
  have hlen := bytes_len v 8
  have hlt := bytes_lt v 8
  have hW := W_bytes v 8 (by rw [show (256 : Nat) ^ 8 = 18446744073709551616 by decide]; exact hv)
  have e1 := step1 _ hlen hlt
  rw [hW] at e1
  have l1 : ((bytes v 8).map c1).length = 8 := by rw [List.length_map, hlen]
  have t1 : ∀ b ∈ (bytes v 8).map c1, b < 256 := all_map hlt fun b hb => (bytes_ok b hb).1
  have e2 := step2 _ l1 t1
  have l2 : (((bytes v 8).map c1).map c2).length = 8 := by rw [List.length_map, l1]
  have t2 : ∀ b ∈ ((bytes v 8).map c1).map c2, b ≤ 68 ∧ b % 16 ≤ 4 := by
    rw [List.map_map]
    exact all_map hlt fun b hb => (bytes_ok b hb).2.1
  have e3 := step3 _ l2 t2
  have hp := pc_W (bytes v 8) hlt
  rw [hlen, hW] at hp
  have hs1 : s1 v < 18446744073709551616 := by
    rw [e1]; have := W_lt _ 8 l1 t1; rwa [show (256 : Nat) ^ 8 = 18446744073709551616 by decide] at this
  have hs2 : s2 (s1 v) < 9223372036854775808 := by
    rw [e1, e2]
    match hm : ((bytes v 8).map c1).map c2, l2, t2 with
    | [a0, a1, a2, a3, a4, a5, a6, a7], _, t2 =>
      simp at t2
      exact W8_small _ _ _ _ _ _ _ _ (by omega) (by omega) (by omega) (by omega) (by omega) (by omega) (by omega) (by omega)
  have e4 : s3 (s2 (s1 v)) = W ((bytes v 8).map fun b => c3 (c2 (c1 b))) := by
    rw [e1, e2, e3, List.map_map, List.map_map]; rfl
  have t4 : ∀ b ∈ (bytes v 8).map (fun b => c3 (c2 (c1 b))), b ≤ 8 := all_map hlt fun b hb => (bytes_ok b hb).2.2.1
  have l4 : ((bytes v 8).map (fun b => c3 (c2 (c1 b)))).length = 8 := by rw [List.length_map, hlen]
  have p4 : (bytes v 8).map (fun b => c3 (c2 (c1 b))) = (bytes v 8).map (fun b => pc 8 b) := List.map_congr_left fun b hb => (bytes_ok b (hlt b hb)).2.2.2
  rw [← p4] at hp
  generalize (bytes v 8).map (fun b => c3 (c2 (c1 b))) = l at e4 t4 l4 hp
  match l, l4, t4, e4, hp with
  | [a0, a1, a2, a3, a4, a5, a6, a7], _, t4, e4, hp =>
    simp at t4
    obtain ⟨q0, q1, q2, q3, q4, q5, q6, q7⟩ := t4
    have := fold8 a0 a1 a2 a3 a4 a5 a6 a7 q0 q1 q2 q3 q4 q5 q6 q7 _ _ _ rfl rfl rfl
    refine ⟨_, _, _, by rw [e4], rfl, rfl, ?_, this.2.1, this.2.2.1, this.2.2.2, hs1, hs2⟩
    rw [this.1, hp]
    simp
    omega
end Go.Proofs.YtjalglcmpnjeoaaDoor.Pop
