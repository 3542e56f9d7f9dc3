/- The contracts of the package bytes and of its reference, over natural numbers and slices that read as lists. -/
import Derived.Test.YthfmhcbeodjffaaPBytesPutsx1
import Derived.Test.YthfmhcbeodjffaaPBytesPutsR
set_option linter.unusedVariables false
set_option linter.unusedSimpArgs false
namespace Go.Proofs.Ythfmhcbeodjffaa.BytesW
open Go.RowKit Go.Proofs.YthfmhcbeodjffaaW.PrintWords Go.Proofs.YthfmhcbeodjffaaW.PrintMore Go.Proofs.Ythfmhcbeodjffaa.Bits Go.Proofs.Ythfmhcbeodjffaa.PBytesPuts

/-- A slice of bytes that reads as l. -/
def Rd (w : World) (A : Option Addr) (n : Nat) (l : List Nat) : Prop := ReadsInt w .u8 A n (up l)
/-- What a call answers, and that it writes below nothing. -/
def Ans (r : Value) (W : World) (e : Ending) (w' : World) : Prop := e = .returned r ∧ Below W.heap.size W w'
theorem Rd.len {w : World} {A : Option Addr} {n : Nat} {l : List Nat} (h : Rd w A n l) : l.length = n := by have := h.1; rwa [up_len] at this
theorem Rd.below {w w1 : World} {A : Option Addr} {n : Nat} {l : List Nat} (h : Rd w A n l) (hb : Below w.heap.size w w1) : Rd w1 A n l := ReadsInt.below h hb
theorem up_take (l : List Nat) (i : Nat) : (up l).take i = up (l.take i) := by simp [up, List.map_take]
theorem Rd.take {w : World} {A : Option Addr} {n : Nat} {l : List Nat} (h : Rd w A n l) (i : Nat) (hi : i ≤ n) : Rd w A i (l.take i) := by
  have := ReadsInt.take_ h i hi
  rwa [up_take] at this
/-- A slice of the call's own: it reads as l. -/
def Own (w : World) (base : Nat) (v : Value) (l : List Nat) : Prop := w.ownsRow base 5 1 v (up l).length (nums .u8 (up l))
theorem Own.slice {w : World} {base : Nat} {v : Value} {l : List Nat} (h : Own w base v l) : ∃ A c, v = .slice A l.length c ∧ l.length ≤ c ∧ Rd w A l.length l := by
  unfold Own at h
  rw [up_len] at h
  obtain ⟨A, c, rfl, hr⟩ := own_reads h
  exact ⟨A, c, rfl, own_le h, hr⟩
theorem get_says (A : Option Addr) (n c : Nat) (l : List Nat) (hl : ∀ x ∈ l, x < 256) (w : World) (h : Rd w A n l) (hc : n ≤ c) :
    Calls Try.prog 13 #[.slice A n c] w (Ans (.int .u64 (val (l.take 8) : Nat)) w) := by
  have hn := h.len
  subst hn
  have := bytes_Get.calls 200 A c (up l) _ w (Kd.C_of_reads (d := (0 : Int)) (by rw [up_len]; exact h)) (by rw [up_len]; exact hc) (getb_f l hl 200 (by omega))
  rw [up_len] at this
  exact this
theorem put_says (v s : Nat) (hv : v < 18446744073709551616) (hs : s ≤ 8) (w : World) :
    Calls Try.prog 9 #[.int .u64 (v : Int), .int .i64 (s : Int)] w fun e w' => ∃ r, e = .returned r ∧ Own w' w.heap.size r (bys v s) ∧ Below w.heap.size w w' := by
  refine (bytes_Put.calls 200 v s _ w (put_f v s 200 hv hs (by omega))).mono fun e w' h => ?_
  obtain ⟨r, rfl, hr, hb⟩ := h
  exact ⟨r, rfl, Kd.own_of_R hr, hb⟩
theorem rput_says (v s : Nat) (hv : v < 18446744073709551616) (hs : s ≤ 8) (w : World) :
    Calls Try.prog 10 #[.int .u64 (v : Int), .int .i64 (s : Int)] w fun e w' => ∃ r, e = .returned r ∧ Own w' w.heap.size r (bys v s) ∧ Below w.heap.size w w' := by
  refine (atlasref02_Put.calls 200 v s _ w (rput_f v s 200 hv hs (by omega))).mono fun e w' h => ?_
  obtain ⟨r, rfl, hr, hb⟩ := h
  exact ⟨r, rfl, Kd.own_of_R hr, hb⟩
theorem low_says (v s : Nat) (hv : v < 18446744073709551616) (hs : s ≤ 8) (w : World) :
    Calls Try.prog 11 #[.int .u64 (v : Int), .int .i64 (s : Int)] w (Ans (.int .u64 ((v % 256 ^ s : Nat) : Int)) w) :=
  (bytes_Low.calls v s _ w (low_f v s hv hs)).mono fun e w' h => ⟨h.1, h.2.below⟩
theorem rsize_says (n : Int) (w : World) : Calls Try.prog 16 #[.int .i64 n] w (Ans (.bool (decide (n = 1 ∨ n = 2 ∨ n = 4 ∨ n = 8))) w) :=
  (atlasref02_Size.calls n _ w (rsize_f n)).mono fun e w' h => ⟨h.1, h.2.below⟩
theorem awake_says (w : World) : Calls Try.prog 7 #[] w (Ans (.bool true) w) :=
  atlaslaw02_awake.calls 200 true w (awake_f 200 (by omega))
theorem pick_says (a : Int) (h : 0 ≤ a) (h1 : a ≤ 255) : ∃ s : Nat, (s = 1 ∨ s = 2 ∨ s = 4 ∨ s = 8) ∧ ∀ w : World, Calls Try.prog 8 #[.int .u8 a] w (Ans (.int .i64 (s : Int)) w) := by
  obtain ⟨s, hs, hp⟩ := pick_f a h h1
  exact ⟨s, hs, fun w => atlasref02_Pick.calls a _ w hp⟩
theorem val8_lt (l : List Nat) (hl : ∀ x ∈ l, x < 256) : val (l.take 8) < 18446744073709551616 := by
  have h := val_lt (l.take 8) fun x hx => hl x (List.mem_of_mem_take hx)
  have h8 := pow256_le (l.take 8).length (by rw [List.length_take]; omega)
  omega
theorem val_mod (l : List Nat) (hl : ∀ x ∈ l, x < 256) (s : Nat) (hs : s ≤ l.length) : val l % 256 ^ s = val (l.take s) := by
  have e := val_app (l.take s) (l.drop s)
  rw [List.take_append_drop, List.length_take, Nat.min_eq_left hs] at e
  have h := val_lt (l.take s) fun x hx => hl x (List.mem_of_mem_take hx)
  rw [List.length_take, Nat.min_eq_left hs] at h
  rw [e, Nat.add_mul_mod_self_left, Nat.mod_eq_of_lt h]
theorem val_zero (l : List Nat) : val (l ++ [0]) = val l := by rw [val_app]; simp [val]
end Go.Proofs.Ythfmhcbeodjffaa.BytesW
