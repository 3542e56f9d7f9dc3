/- Walks of functions, written by the session's own program wip/sx/sxgen.py; Lean checks them. -/
import Derived.Test.YtfkmcdkncmapmaaGreatDoorY02
import Derived.Test.YtfkmcdkncmapmaaGreatDoorY01
import Derived.Test.YtfkmcdkncmapmaaGreatDoorY05
import Derived.Test.YtfkmcdkncmapmaaGreatDoorY06
import Derived.Test.YtfkmcdkncmapmaaGreatDoorProg
set_option linter.unusedVariables false
set_option linter.unusedSimpArgs false
set_option maxRecDepth 100000
set_option maxHeartbeats 1000000
namespace Go.Proofs.YtfkmcdkncmapmaaGreatDoor
open Go Go.RowKit
def mask (n : Nat) : Nat := if 64 ≤ n then 18446744073709551615 else 2 ^ n - 1
theorem mask_eq (n : Nat) : mask n = 2 ^ (min n 64) - 1 := by
 unfold mask; split
 · rw [Nat.min_eq_right ko]
 · rw [Nat.min_eq_left ko]
theorem mask_lt (n : Nat) : mask n < 18446744073709551616 := by
 rw [mask_eq]; have := Bits.two_pow_le (min n 64) ko; have := Nat.two_pow_pos (min n 64); omega
theorem mask_raw (n : Nat) (h : ¬ 64 ≤ n) : Value.int .u64 (IntKind.u64.wrap (((1 * 2 ^ (min n 64) % 18446744073709551616 : Nat) : Int) - 1)) = .int .u64 ((mask n : Nat) : Int) := by
 have h1 := Bits.two_pow_lt n ko
 have h2 := Nat.two_pow_pos n
 rw [Nat.min_eq_left ko, Nat.one_mul, Nat.mod_eq_of_lt h1, mask, if_neg h, show (((2 ^ n : Nat) : Int) - 1) = ((2 ^ n - 1 : Nat) : Int) by omega, Bits.wrap_u _ ko]
theorem mask_calls (n : Nat)  (w0 : World) (hn : n < 9223372036854775808) : SX.Gives Tryz.prog 120 #[.int .i64 (((n : Nat) : Int))] w0 (.int .u64 (((mask n : Nat) : Int))) := by
 refine SX.enter (args := [.int .i64 (((n : Nat) : Int))]) 9 Tryz.func120 rfl kr fun ac A H => XS (XR (Xb [0] A H fun ac w A H => XD (XT (XS (XS (XR (Xb [0, 0] A H fun ac w A H => XD (XT ?_))))))))
 refine Xs (decide (((n : Nat) : Int) ≥ 64)) (fun h1 => ?_) fun h1 => ?_
 ·
  have A := A.rb 4 h1
  have h1p : ((n : Nat) : Int) ≥ 64 := kp h1
  refine Xt A (XS (XR (Xb [0] A H fun ac w A H => XD (XT (XW (XU (Xr [0] (.int .u64 18446744073709551615) A H ?_)))))))
  show Value.int .u64 _ = Value.int .u64 _
  first | (rw [mask, if_pos ko] <;> rfl) | rfl
 ·
  have A := A.rb 4 h1
  have h1p : ¬ (((n : Nat) : Int) ≥ 64) := kp h1
  refine Xf A (XK (XT (XS (XR (Xb [0, 0] A H fun ac w A H => ?_)))))
  have A := A.re 6 (.int .u64 (IntKind.u64.wrap (((n : Nat) : Int)))) (.int .u64 (((n : Nat) : Int))) kr (SX.u_in _ ko)
  refine Xb [0] A H fun ac w A H => ?_
  have A := A.re 7 (.int .u64 (IntKind.u64.wrap (1 * 2 ^ (min (Int.toNat ((n : Nat) : Int)) IntKind.u64.bits)))) (.int .u64 ((((1 * 2 ^ (min n 64) % 18446744073709551616) : Nat) : Int))) kr (Bits.u_shl 1 n)
  refine Xb [0] A H fun ac w A H => ?_
  have A := A.re 8 (.int .u64 (IntKind.u64.wrap ((((1 * 2 ^ (min n 64) % 18446744073709551616) : Nat) : Int) - 1))) (.int .u64 ((((mask n) : Nat) : Int))) kr (mask_raw n ko)
  refine Xb [0] A H fun ac w A H => XD (XT (XW (Xr [0] (.int .u64 ((((mask n) : Nat) : Int))) A H ?_)))
  show Value.int .u64 _ = Value.int .u64 _
  first | (rw [mask, if_pos ko] <;> rfl) | rfl
theorem get_raw (w lo n : Nat) (hw : w < 18446744073709551616) : Value.int .u64 (IntKind.u64.wrap (((BitVec.ofInt IntKind.u64.bits ((w / 2 ^ (min lo 64) : Nat) : Int) &&& BitVec.ofInt IntKind.u64.bits ((mask n : Nat) : Int)).toNat : Nat) : Int)) = .int .u64 ((Bits.getN w lo n : Nat) : Int) := by
 rw [Bits.u_and _ _ (Nat.lt_of_le_of_lt (Nat.div_le_self _ _) hw) (mask_lt n), mask_eq]; rfl
def shm (n lo : Nat) : Nat := mask n * 2 ^ (min lo 64) % 18446744073709551616
theorem shm_lt (n lo : Nat) : shm n lo < 18446744073709551616 := Nat.mod_lt _ kc
def shv (v lo : Nat) : Nat := v * 2 ^ (min lo 64) % 18446744073709551616
theorem shv_lt (n lo : Nat) : shv n lo < 18446744073709551616 := Nat.mod_lt _ kc
theorem set_raw (w lo n v : Nat) : Value.int .u64 (IntKind.u64.wrap (((BitVec.ofInt IntKind.u64.bits ((w &&& (18446744073709551615 - shm n lo) : Nat) : Int) ||| BitVec.ofInt IntKind.u64.bits ((shv v lo &&& shm n lo : Nat) : Int)).toNat : Nat) : Int)) = .int .u64 ((Bits.setN w lo n v : Nat) : Int) := by
 have h1 : w &&& (18446744073709551615 - shm n lo) < 18446744073709551616 := Nat.lt_of_le_of_lt Nat.and_le_right ko
 rw [Bits.u_or _ _ h1 (Nat.lt_of_le_of_lt Nat.and_le_left (shv_lt v lo))]
 unfold Bits.setN shm shv; rw [mask_eq]
theorem Get_calls (x : Nat) (lo : Nat) (n : Nat)  (w0 : World) (hx : x < 18446744073709551616) (hlo : lo < 9223372036854775808) (hn : n < 9223372036854775808) : SX.Gives Tryz.prog 63 #[.int .u64 (((x : Nat) : Int)), .int .i64 (((lo : Nat) : Int)), .int .i64 (((n : Nat) : Int))] w0 (.int .u64 (((Bits.getN x lo n : Nat) : Int))) := by
 refine SX.enter (args := [.int .u64 (((x : Nat) : Int)), .int .i64 (((lo : Nat) : Int)), .int .i64 (((n : Nat) : Int))]) 14 Tryz.func63 rfl kr fun ac A H => XS (XR (Xb [0] A H fun ac w A H => XD (XT (XS (XR (Xb [0, 0, 0] A H fun ac w A H => ?_))))))
 have A := A.re 9 (.int .u64 (IntKind.u64.wrap (((lo : Nat) : Int)))) (.int .u64 (((lo : Nat) : Int))) kr (SX.u_in _ ko)
 refine Xb [0] A H fun ac w A H => ?_
 have A := A.re 10 (.int .u64 (Int.fdiv ((x : Nat) : Int) (2 ^ (min (Int.toNat ((lo : Nat) : Int)) IntKind.u64.bits)))) (.int .u64 ((((x / 2 ^ (min lo 64)) : Nat) : Int))) kr (Bits.u_shr x lo)
 refine Xb [0] A H fun ac w A H => Xc A H (mask_calls n w ko) fun ac w A H => Xb [0] A H fun ac w A H => ?_
 have A := A.re 13 (.int .u64 (IntKind.u64.wrap (((BitVec.ofInt IntKind.u64.bits (((x / 2 ^ (min lo 64)) : Nat) : Int) &&& BitVec.ofInt IntKind.u64.bits ((mask n : Nat) : Int)).toNat : Nat) : Int))) (.int .u64 ((((Bits.getN x lo n) : Nat) : Int))) kr (get_raw x lo n hx)
 refine Xb [0] A H fun ac w A H => XD (XT (XW (Xr [0] (.int .u64 ((((Bits.getN x lo n) : Nat) : Int))) A H ?_)))
 rfl
theorem Set_calls (x : Nat) (lo : Nat) (n : Nat) (v : Nat)  (w0 : World) (hx : x < 18446744073709551616) (hlo : lo < 9223372036854775808) (hn : n < 9223372036854775808) : SX.Gives Tryz.prog 102 #[.int .u64 (((x : Nat) : Int)), .int .i64 (((lo : Nat) : Int)), .int .i64 (((n : Nat) : Int)), .int .u64 (((v : Nat) : Int))] w0 (.int .u64 (((Bits.setN x lo n v : Nat) : Int))) := by
 refine SX.enter (args := [.int .u64 (((x : Nat) : Int)), .int .i64 (((lo : Nat) : Int)), .int .i64 (((n : Nat) : Int)), .int .u64 (((v : Nat) : Int))]) 25 Tryz.func102 rfl kr fun ac A H => XS (XR (Xb [0] A H fun ac w A H => XD (XT (XS (XR (Xb [0] A H fun ac w A H => Xc A H (mask_calls n w ko) fun ac w A H => Xb [0, 0] A H fun ac w A H => ?_))))))
 have A := A.re 13 (.int .u64 (IntKind.u64.wrap (((lo : Nat) : Int)))) (.int .u64 (((lo : Nat) : Int))) kr (SX.u_in _ ko)
 refine Xb [0] A H fun ac w A H => ?_
 have A := A.re 14 (.int .u64 (IntKind.u64.wrap (((mask n : Nat) : Int) * 2 ^ (min (Int.toNat ((lo : Nat) : Int)) IntKind.u64.bits)))) (.int .u64 ((((shm n lo) : Nat) : Int))) kr (Bits.u_shl _ lo)
 refine Xb [0] A H fun ac w A H => XD (XT (XS (XR (Xb [0, 0, 0] A H fun ac w A H => ?_))))
 have A := A.re 17 (.int .u64 (IntKind.u64.wrap (((BitVec.ofInt IntKind.u64.bits ((x : Nat) : Int) &&& ~~~ BitVec.ofInt IntKind.u64.bits (((shm n lo) : Nat) : Int)).toNat : Nat) : Int))) (.int .u64 ((((x &&& (18446744073709551615 - shm n lo)) : Nat) : Int))) kr (Bits.u_andNot x (shm n lo) hx (shm_lt n lo))
 refine Xb [0, 0, 0] A H fun ac w A H => ?_
 have A := A.re 20 (.int .u64 (IntKind.u64.wrap (((lo : Nat) : Int)))) (.int .u64 (((lo : Nat) : Int))) kr (SX.u_in _ ko)
 refine Xb [0] A H fun ac w A H => ?_
 have A := A.re 21 (.int .u64 (IntKind.u64.wrap (((v : Nat) : Int) * 2 ^ (min (Int.toNat ((lo : Nat) : Int)) IntKind.u64.bits)))) (.int .u64 ((((shv v lo) : Nat) : Int))) kr (Bits.u_shl v lo)
 refine Xb [0, 0] A H fun ac w A H => ?_
 have A := A.re 23 (.int .u64 (IntKind.u64.wrap (((BitVec.ofInt IntKind.u64.bits (((shv v lo) : Nat) : Int) &&& BitVec.ofInt IntKind.u64.bits (((shm n lo) : Nat) : Int)).toNat : Nat) : Int))) (.int .u64 ((((shv v lo &&& shm n lo) : Nat) : Int))) kr (Bits.u_and _ _ (shv_lt v lo) (shm_lt n lo))
 refine Xb [0] A H fun ac w A H => ?_
 have A := A.re 24 (.int .u64 (IntKind.u64.wrap (((BitVec.ofInt IntKind.u64.bits (((x &&& (18446744073709551615 - shm n lo)) : Nat) : Int) ||| BitVec.ofInt IntKind.u64.bits (((shv v lo &&& shm n lo) : Nat) : Int)).toNat : Nat) : Int))) (.int .u64 ((((Bits.setN x lo n v) : Nat) : Int))) kr (set_raw x lo n v)
 refine Xb [0] A H fun ac w A H => XD (XT (XW (Xr [0] (.int .u64 ((((Bits.setN x lo n v) : Nat) : Int))) A H ?_)))
 rfl
theorem Bool_calls (b : Bool)  (w0 : World) : SX.Gives Tryz.prog 191 #[.bool b] w0 (.int .u64 (((b.toNat : Nat) : Int))) := by
 refine SX.enter (args := [.bool b]) 4 Tryz.func191 rfl kr fun ac A H => XS (XR (Xb [0] A H fun ac w A H => XD (XT (XS (XS (XR (Xb [0] A H fun ac w A H => XD (XT ?_))))))))
 refine Xs (b) (fun h1 => ?_) fun h1 => ?_
 ·
  have A := A.rb 3 h1
  refine Xt A (XS (XR (Xb [0] A H fun ac w A H => XD (XT (XW (XU (Xr [0] (.int .u64 1) A H ?_)))))))
  first | rfl | (simp [h1]; done) | (simp [h1]; omega)
 ·
  have A := A.rb 3 h1
  refine Xf A (XK (XT (XS (XR (Xb [0] A H fun ac w A H => XD (XT (XW (Xr [0] (.int .u64 0) A H ?_))))))))
  first | rfl | (simp [h1]; done) | (simp [h1]; omega)
def within (n a b : Int) : Bool := decide (a ≤ n) && decide (n ≤ b)
theorem within_calls (n : Int) (a : Int) (b : Int)  (w0 : World) : SX.Gives Tryz.prog 60 #[.int .i64 n, .int .i64 a, .int .i64 b] w0 (.bool (within n a b)) := by
 refine SX.enter (args := [.int .i64 n, .int .i64 a, .int .i64 b]) 15 Tryz.func60 rfl kr fun ac A H => XS (XR (Xb [0] A H fun ac w A H => XD (XT (XS (XR (Xb [0, 0, 0, 0] A H fun ac w A H => ?_))))))
 refine Xs (decide (n ≥ a)) (fun h1 => ?_) fun h1 => ?_
 ·
  have A := A.rb 10 h1
  have h1p : n ≥ a := kp h1
  refine Xb [0, 0, 0, 0, 0] A H fun ac w A H => XD (XT (XW (Xr [0] (.bool (decide (n ≤ b))) A H (congrArg Value.bool ?_))))
  first | (simp [within, h1, h1p]; done) | (rw [Bool.eq_iff_iff]; simp [within, h1, h1p]; done) | (rw [Bool.eq_iff_iff]; simp [within, h1, h1p]; omega)
 ·
  have A := A.rb 10 h1
  have h1p : ¬ (n ≥ a) := kp h1
  refine Xb [0, 0, 0, 0, 0] A H fun ac w A H => XD (XT (XW (Xr [0] (.bool false) A H (congrArg Value.bool ?_))))
  first | (simp [within, h1, h1p]; done) | (rw [Bool.eq_iff_iff]; simp [within, h1, h1p]; done) | (rw [Bool.eq_iff_iff]; simp [within, h1, h1p]; omega)
theorem isNaN_calls (x : Nat)  (w0 : World) : SX.Gives Tryz.prog 226 #[.int .u64 (((x : Nat) : Int))] w0 (.bool false) := by
 refine SX.enter (args := [.int .u64 (((x : Nat) : Int))]) 6 Tryz.func226 rfl kr fun ac A H => XS (XR (Xb [0] A H fun ac w A H => XD (XT (XS (XR (Xb [0, 0, 0, 0] A H fun ac w A H => XD (XT (XW (Xr [0] (.bool (((x : Nat) : Int) != ((x : Nat) : Int))) A H (congrArg Value.bool ?_))))))))))
 first | (simp []; done) | (rw [Bool.eq_iff_iff]; simp []; done) | (rw [Bool.eq_iff_iff]; simp []; omega)
def cmpN (x y : Nat) : Int := if x < y then -1 else if y < x then 1 else 0
theorem Compare_calls (x : Nat) (y : Nat)  (w0 : World) : SX.Gives Tryz.prog 201 #[.int .u64 (((x : Nat) : Int)), .int .u64 (((y : Nat) : Int))] w0 (.int .i64 (cmpN x y)) := by
 refine SX.enter (args := [.int .u64 (((x : Nat) : Int)), .int .u64 (((y : Nat) : Int))]) 20 Tryz.func201 rfl kr fun ac A H => XS (XR (Xb [0] A H fun ac w A H => XD (XT (XS (XR (Xb [0] A H fun ac w A H => Xc A H (isNaN_calls x w) fun ac w A H => Xb [0] A H fun ac w A H => XD (XT (XS (XR (Xb [0] A H fun ac w A H => Xc A H (isNaN_calls y w) fun ac w A H => Xb [0] A H fun ac w A H => XD (XT (XS (XS (XR (Xb [0] A H fun ac w A H => XD (XT (Xf A (XK (XT (XS (XS (XR (Xb [0] A H fun ac w A H => XD (XT (Xf A (XK (XT (XS (XS (XR (Xb [0, 0, 0] A H fun ac w A H => XD (XT ?_))))))))))))))))))))))))))))))))
 refine Xs (decide (((x : Nat) : Int) < ((y : Nat) : Int))) (fun h1 => ?_) fun h1 => ?_
 ·
  have A := A.rb 16 h1
  have h1p : x < y := kp h1
  refine Xt A (XS (XR (Xb [0] A H fun ac w A H => XD (XT (XW (XU (Xr [0] (.int .i64 ((-1))) A H ?_)))))))
  first | rfl | (simp [cmpN, h1, h1p]; done) | (simp [cmpN, h1, h1p]; omega)
 ·
  have A := A.rb 16 h1
  have h1p : ¬ (x < y) := kp h1
  refine Xf A (XK (XT (XS (XS (XR (Xb [0, 0, 0] A H fun ac w A H => XD (XT ?_)))))))
  refine Xs (decide (((x : Nat) : Int) > ((y : Nat) : Int))) (fun h2 => ?_) fun h2 => ?_
  ·
   have A := A.rb 19 h2
   have h2p : x > y := kp h2
   refine Xt A (XS (XR (Xb [0] A H fun ac w A H => XD (XT (XW (XU (Xr [0] (.int .i64 1) A H ?_)))))))
   first | rfl | (simp [cmpN, h1, h2, h1p, h2p]; done) | (simp [cmpN, h1, h2, h1p, h2p]; omega)
  ·
   have A := A.rb 19 h2
   have h2p : ¬ (x > y) := kp h2
   refine Xf A (XK (XT (XS (XR (Xb [0] A H fun ac w A H => XD (XT (XW (Xr [0] (.int .i64 0) A H ?_))))))))
   first | rfl | (simp [cmpN, h1, h2, h1p, h2p]; done) | (simp [cmpN, h1, h2, h1p, h2p]; omega)
theorem find1_calls (c : D.Cell) (k : Nat)  (w0 : World) : SX.Gives Tryz.prog 200 #[(D.Cell.enc c), .int .u64 (((k : Nat) : Int))] w0 (.int .i64 (cmpN c.at_ k)) := by
 refine SX.enter (args := [(D.Cell.enc c), .int .u64 (((k : Nat) : Int))]) 9 Tryz.func200 rfl kr fun ac A H => XS (XR (Xb [0, 0] A H fun ac w A H => XD (XT (XS (XR (Xb [0, 0, 0] A H fun ac w A H => Xc A H (Compare_calls c.at_ k w) fun ac w A H => Xb [0] A H fun ac w A H => XD (XT (XW (Xr [0] (.int .i64 (cmpN c.at_ k)) A H ?_)))))))))
 rfl
def fits (n wide : Nat) : Bool := decide (Bits.getN n 0 wide = n)
theorem pfits_calls (n : Nat) (wide : Nat)  (w0 : World) (hw : n < 18446744073709551616) (hn : wide < 9223372036854775808) : SX.Gives Tryz.prog 190 #[.int .u64 (((n : Nat) : Int)), .int .i64 (((wide : Nat) : Int))] w0 (.bool (fits n wide)) := by
 refine SX.enter (args := [.int .u64 (((n : Nat) : Int)), .int .i64 (((wide : Nat) : Int))]) 10 Tryz.func190 rfl kr fun ac A H => XS (XR (Xb [0] A H fun ac w A H => XD (XT (XS (XR (Xb [0, 0] A H fun ac w A H => Xc A H (Get_calls n 0 wide w ko ko ko) fun ac w A H => Xb [0, 0, 0] A H fun ac w A H => XD (XT (XW (Xr [0] (.bool (((Bits.getN n 0 wide : Nat) : Int) == ((n : Nat) : Int))) A H (congrArg Value.bool ?_))))))))))
 first | (simp [fits]; done) | (rw [Bool.eq_iff_iff]; simp [fits]; done) | (rw [Bool.eq_iff_iff]; simp [fits]; omega)
theorem awithin_calls (n : Nat) (wide : Nat)  (w0 : World) (hw : n < 18446744073709551616) (hn : wide < 9223372036854775808) : SX.Gives Tryz.prog 121 #[.int .u64 (((n : Nat) : Int)), .int .i64 (((wide : Nat) : Int))] w0 (.bool (fits n wide)) := by
 refine SX.enter (args := [.int .u64 (((n : Nat) : Int)), .int .i64 (((wide : Nat) : Int))]) 10 Tryz.func121 rfl kr fun ac A H => XS (XR (Xb [0] A H fun ac w A H => XD (XT (XS (XR (Xb [0, 0] A H fun ac w A H => Xc A H (Get_calls n 0 wide w ko ko ko) fun ac w A H => Xb [0, 0, 0] A H fun ac w A H => XD (XT (XW (Xr [0] (.bool (((Bits.getN n 0 wide : Nat) : Int) == ((n : Nat) : Int))) A H (congrArg Value.bool ?_))))))))))
 first | (simp [fits]; done) | (rw [Bool.eq_iff_iff]; simp [fits]; done) | (rw [Bool.eq_iff_iff]; simp [fits]; omega)
theorem efits_calls (n : Nat) (wide : Nat)  (w0 : World) (hw : n < 18446744073709551616) (hn : wide < 9223372036854775808) : SX.Gives Tryz.prog 232 #[.int .u64 (((n : Nat) : Int)), .int .i64 (((wide : Nat) : Int))] w0 (.bool (fits n wide)) := by
 refine SX.enter (args := [.int .u64 (((n : Nat) : Int)), .int .i64 (((wide : Nat) : Int))]) 10 Tryz.func232 rfl kr fun ac A H => XS (XR (Xb [0] A H fun ac w A H => XD (XT (XS (XR (Xb [0, 0] A H fun ac w A H => Xc A H (Get_calls n 0 wide w ko ko ko) fun ac w A H => Xb [0, 0, 0] A H fun ac w A H => XD (XT (XW (Xr [0] (.bool (((Bits.getN n 0 wide : Nat) : Int) == ((n : Nat) : Int))) A H (congrArg Value.bool ?_))))))))))
 first | (simp [fits]; done) | (rw [Bool.eq_iff_iff]; simp [fits]; done) | (rw [Bool.eq_iff_iff]; simp [fits]; omega)
end Go.Proofs.YtfkmcdkncmapmaaGreatDoor
set_option linter.unusedVariables false
set_option linter.unusedSimpArgs false
set_option maxRecDepth 100000
set_option maxHeartbeats 1000000
namespace Go.Proofs.YtfkmcdkncmapmaaGreatDoor
open Go Go.RowKit
def sizeN (l : Int) : Nat := if l = 0 then 4096 else if l = 1 then 2097152 else 1073741824
def even (x y : Nat) : Bool := if y = 0 then decide (x = 0) else decide (x % y = 0)
def sign39 (x : Nat) : Nat := if x / 274877906944 % 2 = 1 then x % 549755813888 + 18446743523953737728 else x % 549755813888
theorem sign39_lt (x : Nat) : sign39 x < 18446744073709551616 := by unfold sign39; split <;> omega
theorem sign_raw (x : Nat) : Value.int .u64 (IntKind.u64.wrap (Int.fdiv (IntKind.i64.wrap ((x * 33554432 % 18446744073709551616 : Nat) : Int)) (2 ^ min (Int.toNat 25) IntKind.i64.bits))) = .int .u64 ((sign39 x : Nat) : Int) := by
 show Value.int .u64 (IntKind.u64.wrap (Int.fdiv (IntKind.i64.wrap ((x * 33554432 % 18446744073709551616 : Nat) : Int)) 33554432)) = _
 congr 1
 rw [IntKind.wrap_u64, IntKind.wrap_i64, Int.fdiv_eq_ediv_of_nonneg _ kc]
 unfold sign39
 split <;> omega
theorem Size_calls (level : Int)  (w0 : World) (hL : Ld w0) (hl : level = 0 ∨ level = 1 ∨ level = 2) : SX.Gives Tryz.prog 43 #[.int .i64 level] w0 (.int .u64 (((sizeN level : Nat) : Int))) := by
 rcases hl with rfl | rfl | rfl
 ·
  refine SX.enter (args := [.int .i64 0]) 6 Tryz.func43 rfl kr fun ac A H => ?_
  obtain ⟨Tsizes, fsizes, hTsizes⟩ := hL.sizes
  have H := H.fb_old hTsizes
  refine XS (XR (Xb [0] A H fun ac w A H => XD (XT (XS (XR (Xb [0, 0, 1000, 0] A H fun ac w A H => XD (XT (XW (Xr [0] (.int .u64 4096) A H ?_)))))))))
  rfl
 ·
  refine SX.enter (args := [.int .i64 1]) 6 Tryz.func43 rfl kr fun ac A H => ?_
  obtain ⟨Tsizes, fsizes, hTsizes⟩ := hL.sizes
  have H := H.fb_old hTsizes
  refine XS (XR (Xb [0] A H fun ac w A H => XD (XT (XS (XR (Xb [0, 0, 1000, 0] A H fun ac w A H => XD (XT (XW (Xr [0] (.int .u64 2097152) A H ?_)))))))))
  rfl
 ·
  refine SX.enter (args := [.int .i64 2]) 6 Tryz.func43 rfl kr fun ac A H => ?_
  obtain ⟨Tsizes, fsizes, hTsizes⟩ := hL.sizes
  have H := H.fb_old hTsizes
  refine XS (XR (Xb [0] A H fun ac w A H => XD (XT (XS (XR (Xb [0, 0, 1000, 0] A H fun ac w A H => XD (XT (XW (Xr [0] (.int .u64 1073741824) A H ?_)))))))))
  rfl
theorem Even_calls (x : Nat) (y : Nat)  (w0 : World) : SX.Gives Tryz.prog 48 #[.int .u64 (((x : Nat) : Int)), .int .u64 (((y : Nat) : Int))] w0 (.bool (even x y)) := by
 refine SX.enter (args := [.int .u64 (((x : Nat) : Int)), .int .u64 (((y : Nat) : Int))]) 13 Tryz.func48 rfl kr fun ac A H => XS (XR (Xb [0] A H fun ac w A H => XD (XT (XS (XS (XR (Xb [0, 0] A H fun ac w A H => XD (XT ?_))))))))
 refine Xs (((y : Nat) : Int) == 0) (fun h1 => ?_) fun h1 => ?_
 ·
  have A := A.rb 6 h1
  have h1p : y = 0 := kp h1
  refine Xt A (XS (XR (Xb [0, 0, 0] A H fun ac w A H => XD (XT (XW (XU (Xr [0] (.bool (((x : Nat) : Int) == 0)) A H (congrArg Value.bool ?_))))))))
  first | (simp [even, h1, h1p]; done) | (rw [Bool.eq_iff_iff]; simp [even, h1, h1p]; done) | (rw [Bool.eq_iff_iff]; simp [even, h1, h1p]; omega)
 ·
  have A := A.rb 6 h1
  have h1p : ¬ (y = 0) := kp h1
  refine Xf A (XK (XT (XS (XR (Xb [0, 0] A H fun ac w A H => SX.given A (SX.run_rem Tryz.prog 27 .u64 (((x : Nat) : Int)) (((y : Nat) : Int)) w ko) kr kr fun ac A => ?_)))))
  have A := A.re 11 (.int .u64 (Int.tmod ((x : Nat) : Int) ((y : Nat) : Int))) (.int .u64 ((((x % y) : Nat) : Int))) kr (SX.u_rem x y)
  refine Xb [0, 0] A H fun ac w A H => XD (XT (XW (Xr [0] (.bool ((((x % y) : Nat) : Int) == 0)) A H (congrArg Value.bool ?_))))
  first | (simp [even, h1, h1p]; done) | (rw [Bool.eq_iff_iff]; simp [even, h1, h1p]; done) | (rw [Bool.eq_iff_iff]; simp [even, h1, h1p]; omega)
theorem Sign_calls (x : Nat) (n : Int)  (w0 : World) (hn : n = 39) : SX.Gives Tryz.prog 152 #[.int .u64 (((x : Nat) : Int)), .int .i64 n] w0 (.int .u64 (((sign39 x : Nat) : Int))) := by
 subst hn
 refine SX.enter (args := [.int .u64 (((x : Nat) : Int)), .int .i64 39]) 16 Tryz.func152 rfl kr fun ac A H => XS (XR (Xb [0] A H fun ac w A H => XD (XT (XS (XR (Xb [0, 0, 0, 0] A H fun ac w A H => XD (XT (XS (XR (Xb [0, 0, 0] A H fun ac w A H => ?_))))))))))
 have A := A.re 11 (.int .u64 (IntKind.u64.wrap (((x : Nat) : Int) * 2 ^ (min (Int.toNat 25) IntKind.u64.bits)))) (.int .u64 ((((x * 33554432 % 18446744073709551616) : Nat) : Int))) kr (Bits.u_shl x 25)
 refine Xb [0, 0, 0, 0] A H fun ac w A H => ?_
 have A := A.re 15 (.int .u64 (IntKind.u64.wrap (Int.fdiv (IntKind.i64.wrap ((((x * 33554432 % 18446744073709551616) : Nat) : Int))) (2 ^ (min (Int.toNat 25) IntKind.i64.bits))))) (.int .u64 ((((sign39 x) : Nat) : Int))) kr (sign_raw x)
 refine Xb [0] A H fun ac w A H => XD (XT (XW (Xr [0] (.int .u64 ((((sign39 x) : Nat) : Int))) A H ?_)))
 rfl
theorem getN_lt2 (x lo n : Nat) (hn : n ≤ 64) : Bits.getN x lo n < 2 ^ n := by
 unfold Bits.getN; rw [Nat.min_eq_left hn, Nat.and_two_pow_sub_one_eq_mod]; exact Nat.mod_lt _ (Nat.two_pow_pos n)
def ofN (n : Nat) : Nat := sign39 (Bits.setN 0 12 27 n)
def isN (x : Nat) : Bool := decide (sign39 x = x)
def indexN (x : Nat) (l : Int) : Nat := Bits.getN x (12 + 9 * l.toNat) 9
theorem indexN_lt (x : Nat) (l : Int) : indexN x l < 512 := getN_lt2 x _ 9 kc
def numberN (x : Nat) : Nat := Bits.getN x 12 27
theorem numberN_lt (x : Nat) : numberN x < 134217728 := getN_lt2 x 12 27 kc
theorem setN_lt (x lo n v : Nat) : Bits.setN x lo n v < 18446744073709551616 := Bits.setN_lt x lo n v
def offsetN (x : Nat) (l : Int) : Nat := x &&& (sizeN l - 1)
theorem offsetN_le (x : Nat) (l : Int) : offsetN x l ≤ x := Nat.and_le_left
def baseN (x : Nat) (l : Int) : Nat := x - offsetN x l
def placeN (f i : Nat) : Nat := f * 4096 + i * 8
theorem Of_calls (x : Nat)  (w0 : World) : SX.Gives Tryz.prog 107 #[.int .u64 (((x : Nat) : Int))] w0 (.int .u64 (((ofN x : Nat) : Int))) := by
 refine SX.enter (args := [.int .u64 (((x : Nat) : Int))]) 6 Tryz.func107 rfl kr fun ac A H => XS (XR (Xb [0] A H fun ac w A H => XD (XT (XS (XR (Xb [0] A H fun ac w A H => Xc A H (Set_calls 0 12 27 x w ko ko ko) fun ac w A H => Xc A H (Sign_calls (Bits.setN 0 12 27 x) 39 w (rfl)) fun ac w A H => Xb [0] A H fun ac w A H => XD (XT (XW (Xr [0] (.int .u64 (((sign39 (Bits.setN 0 12 27 x) : Nat) : Int))) A H ?_)))))))))
 rfl
theorem Is_calls (x : Nat)  (w0 : World) : SX.Gives Tryz.prog 154 #[.int .u64 (((x : Nat) : Int))] w0 (.bool (isN x)) := by
 refine SX.enter (args := [.int .u64 (((x : Nat) : Int))]) 7 Tryz.func154 rfl kr fun ac A H => XS (XR (Xb [0] A H fun ac w A H => XD (XT (XS (XR (Xb [0] A H fun ac w A H => Xc A H (Sign_calls x 39 w (rfl)) fun ac w A H => Xb [0, 0, 0] A H fun ac w A H => XD (XT (XW (Xr [0] (.bool (((sign39 x : Nat) : Int) == ((x : Nat) : Int))) A H (congrArg Value.bool ?_))))))))))
 first | (simp [isN]; done) | (rw [Bool.eq_iff_iff]; simp [isN]; done) | (rw [Bool.eq_iff_iff]; simp [isN]; omega)
theorem Index_calls (x : Nat) (level : Int)  (w0 : World) (hx : x < 18446744073709551616) (hl : level = 0 ∨ level = 1 ∨ level = 2) : SX.Gives Tryz.prog 106 #[.int .u64 (((x : Nat) : Int)), .int .i64 level] w0 (.int .i64 (((indexN x level : Nat) : Int))) := by
 rcases hl with rfl | rfl | rfl
 ·
  refine SX.enter (args := [.int .u64 (((x : Nat) : Int)), .int .i64 0]) 11 Tryz.func106 rfl kr fun ac A H => XS (XR (Xb [0] A H fun ac w A H => XD (XT (XS (XR (Xb [0, 0, 0, 0] A H fun ac w A H => Xc A H (Get_calls x 12 9 w ko ko ko) fun ac w A H => Xb [0] A H fun ac w A H => ?_))))))
  have A := A.re 10 (.int .i64 (IntKind.i64.wrap (((Bits.getN x 12 9 : Nat) : Int)))) (.int .i64 (((Bits.getN x 12 9 : Nat) : Int))) kr (SX.i_in _ ko (by have h9 : ∀ lo, Bits.getN x lo 9 < 512 := (fun lo => getN_lt2 x lo 9 kc); have := h9 12; have := h9 21; have := h9 30; omega))
  refine Xb [0] A H fun ac w A H => XD (XT (XW (Xr [0] (.int .i64 (((Bits.getN x 12 9 : Nat) : Int))) A H ?_)))
  rfl
 ·
  refine SX.enter (args := [.int .u64 (((x : Nat) : Int)), .int .i64 1]) 11 Tryz.func106 rfl kr fun ac A H => XS (XR (Xb [0] A H fun ac w A H => XD (XT (XS (XR (Xb [0, 0, 0, 0] A H fun ac w A H => Xc A H (Get_calls x 21 9 w ko ko ko) fun ac w A H => Xb [0] A H fun ac w A H => ?_))))))
  have A := A.re 10 (.int .i64 (IntKind.i64.wrap (((Bits.getN x 21 9 : Nat) : Int)))) (.int .i64 (((Bits.getN x 21 9 : Nat) : Int))) kr (SX.i_in _ ko (by have h9 : ∀ lo, Bits.getN x lo 9 < 512 := (fun lo => getN_lt2 x lo 9 kc); have := h9 12; have := h9 21; have := h9 30; omega))
  refine Xb [0] A H fun ac w A H => XD (XT (XW (Xr [0] (.int .i64 (((Bits.getN x 21 9 : Nat) : Int))) A H ?_)))
  rfl
 ·
  refine SX.enter (args := [.int .u64 (((x : Nat) : Int)), .int .i64 2]) 11 Tryz.func106 rfl kr fun ac A H => XS (XR (Xb [0] A H fun ac w A H => XD (XT (XS (XR (Xb [0, 0, 0, 0] A H fun ac w A H => Xc A H (Get_calls x 30 9 w ko ko ko) fun ac w A H => Xb [0] A H fun ac w A H => ?_))))))
  have A := A.re 10 (.int .i64 (IntKind.i64.wrap (((Bits.getN x 30 9 : Nat) : Int)))) (.int .i64 (((Bits.getN x 30 9 : Nat) : Int))) kr (SX.i_in _ ko (by have h9 : ∀ lo, Bits.getN x lo 9 < 512 := (fun lo => getN_lt2 x lo 9 kc); have := h9 12; have := h9 21; have := h9 30; omega))
  refine Xb [0] A H fun ac w A H => XD (XT (XW (Xr [0] (.int .i64 (((Bits.getN x 30 9 : Nat) : Int))) A H ?_)))
  rfl
theorem Number_calls (x : Nat)  (w0 : World) (hx : x < 18446744073709551616) : SX.Gives Tryz.prog 203 #[.int .u64 (((x : Nat) : Int))] w0 (.int .u64 (((numberN x : Nat) : Int))) := by
 refine SX.enter (args := [.int .u64 (((x : Nat) : Int))]) 5 Tryz.func203 rfl kr fun ac A H => XS (XR (Xb [0] A H fun ac w A H => XD (XT (XS (XR (Xb [0] A H fun ac w A H => Xc A H (Get_calls x 12 27 w ko ko ko) fun ac w A H => Xb [0] A H fun ac w A H => XD (XT (XW (Xr [0] (.int .u64 (((Bits.getN x 12 27 : Nat) : Int))) A H ?_)))))))))
 rfl
theorem Offset_calls (x : Nat) (level : Int)  (w0 : World) (hL : Ld w0) (hx : x < 18446744073709551616) (hl : level = 0 ∨ level = 1 ∨ level = 2) : SX.Gives Tryz.prog 155 #[.int .u64 (((x : Nat) : Int)), .int .i64 level] w0 (.int .u64 (((offsetN x level : Nat) : Int))) := by
 rcases hl with rfl | rfl | rfl
 ·
  refine SX.enter (args := [.int .u64 (((x : Nat) : Int)), .int .i64 0]) 11 Tryz.func155 rfl kr fun ac A H => ?_
  obtain ⟨Tsizes, fsizes, hTsizes⟩ := hL.sizes
  have H := H.fb_old hTsizes
  refine XS (XR (Xb [0] A H fun ac w A H => XD (XT (XS (XR (Xb [0, 0, 0, 1000, 0, 0] A H fun ac w A H => ?_))))))
  have A := A.re 10 (.int .u64 (IntKind.u64.wrap (((BitVec.ofInt IntKind.u64.bits ((x : Nat) : Int) &&& BitVec.ofInt IntKind.u64.bits 4095).toNat : Nat) : Int))) (.int .u64 ((((x &&& 4095) : Nat) : Int))) kr (Bits.u_and x 4095 ko ko)
  refine Xb [0] A H fun ac w A H => XD (XT (XW (Xr [0] (.int .u64 ((((x &&& 4095) : Nat) : Int))) A H ?_)))
  rfl
 ·
  refine SX.enter (args := [.int .u64 (((x : Nat) : Int)), .int .i64 1]) 11 Tryz.func155 rfl kr fun ac A H => ?_
  obtain ⟨Tsizes, fsizes, hTsizes⟩ := hL.sizes
  have H := H.fb_old hTsizes
  refine XS (XR (Xb [0] A H fun ac w A H => XD (XT (XS (XR (Xb [0, 0, 0, 1000, 0, 0] A H fun ac w A H => ?_))))))
  have A := A.re 10 (.int .u64 (IntKind.u64.wrap (((BitVec.ofInt IntKind.u64.bits ((x : Nat) : Int) &&& BitVec.ofInt IntKind.u64.bits 2097151).toNat : Nat) : Int))) (.int .u64 ((((x &&& 2097151) : Nat) : Int))) kr (Bits.u_and x 2097151 ko ko)
  refine Xb [0] A H fun ac w A H => XD (XT (XW (Xr [0] (.int .u64 ((((x &&& 2097151) : Nat) : Int))) A H ?_)))
  rfl
 ·
  refine SX.enter (args := [.int .u64 (((x : Nat) : Int)), .int .i64 2]) 11 Tryz.func155 rfl kr fun ac A H => ?_
  obtain ⟨Tsizes, fsizes, hTsizes⟩ := hL.sizes
  have H := H.fb_old hTsizes
  refine XS (XR (Xb [0] A H fun ac w A H => XD (XT (XS (XR (Xb [0, 0, 0, 1000, 0, 0] A H fun ac w A H => ?_))))))
  have A := A.re 10 (.int .u64 (IntKind.u64.wrap (((BitVec.ofInt IntKind.u64.bits ((x : Nat) : Int) &&& BitVec.ofInt IntKind.u64.bits 1073741823).toNat : Nat) : Int))) (.int .u64 ((((x &&& 1073741823) : Nat) : Int))) kr (Bits.u_and x 1073741823 ko ko)
  refine Xb [0] A H fun ac w A H => XD (XT (XW (Xr [0] (.int .u64 ((((x &&& 1073741823) : Nat) : Int))) A H ?_)))
  rfl
theorem Base_calls (x : Nat) (level : Int)  (w0 : World) (hL : Ld w0) (hx : x < 18446744073709551616) (hl : level = 0 ∨ level = 1 ∨ level = 2) : SX.Gives Tryz.prog 163 #[.int .u64 (((x : Nat) : Int)), .int .i64 level] w0 (.int .u64 (((baseN x level : Nat) : Int))) := by
 refine SX.enter (args := [.int .u64 (((x : Nat) : Int)), .int .i64 level]) 10 Tryz.func163 rfl kr fun ac A H => ?_
 have hof := offsetN_le x level
 refine XS (XR (Xb [0] A H fun ac w A H => XD (XT (XS (XR (Xb [0, 0, 0] A H fun ac w A H => Xc A H (Offset_calls x level w (hL.below H.below) ko (hl)) fun ac w A H => Xb [0] A H fun ac w A H => ?_))))))
 have A := A.re 9 (.int .u64 (IntKind.u64.wrap (((x : Nat) : Int) - ((offsetN x level : Nat) : Int)))) (.int .u64 ((((x - offsetN x level) : Nat) : Int))) kr (SX.u_sub x (offsetN x level) ko ko)
 refine Xb [0] A H fun ac w A H => XD (XT (XW (Xr [0] (.int .u64 ((((x - offsetN x level) : Nat) : Int))) A H ?_)))
 rfl
theorem place_calls (f : Nat) (i : Nat)  (w0 : World) (hf : f < 4503599627370496 - 1) (hi : i < 512) : SX.Gives Tryz.prog 105 #[.int .u64 (((f : Nat) : Int)), .int .i64 (((i : Nat) : Int))] w0 (.int .u64 (((placeN f i : Nat) : Int))) := by
 refine SX.enter (args := [.int .u64 (((f : Nat) : Int)), .int .i64 (((i : Nat) : Int))]) 11 Tryz.func105 rfl kr fun ac A H => XS (XR (Xb [0] A H fun ac w A H => XD (XT (XS (XR (Xb [0, 0] A H fun ac w A H => ?_))))))
 have A := A.re 6 (.int .u64 (IntKind.u64.wrap (((f : Nat) : Int) * 4096))) (.int .u64 ((((f * 4096) : Nat) : Int))) kr (SX.u_mul f 4096 ko)
 refine Xb [0, 0] A H fun ac w A H => ?_
 have A := A.re 8 (.int .u64 (IntKind.u64.wrap (((i : Nat) : Int)))) (.int .u64 (((i : Nat) : Int))) kr (SX.u_in _ ko)
 refine Xb [0] A H fun ac w A H => ?_
 have A := A.re 9 (.int .u64 (IntKind.u64.wrap (((i : Nat) : Int) * 8))) (.int .u64 ((((i * 8) : Nat) : Int))) kr (SX.u_mul i 8 ko)
 refine Xb [0] A H fun ac w A H => ?_
 have A := A.re 10 (.int .u64 (IntKind.u64.wrap ((((f * 4096) : Nat) : Int) + (((i * 8) : Nat) : Int)))) (.int .u64 (((((f * 4096) + (i * 8)) : Nat) : Int))) kr (SX.u_add (f * 4096) (i * 8) ko)
 refine Xb [0] A H fun ac w A H => XD (XT (XW (Xr [0] (.int .u64 (((((f * 4096) + (i * 8)) : Nat) : Int))) A H ?_)))
 rfl
theorem Fits_calls (x : Nat) (level : Int)  (w0 : World) (hL : Ld w0) (hx : x < 18446744073709551616) (hl : level = 0 ∨ level = 1 ∨ level = 2) : SX.Gives Tryz.prog 112 #[.int .u64 (((x : Nat) : Int)), .int .i64 level] w0 (.bool (isN x && decide (offsetN x level = 0))) := by
 refine SX.enter (args := [.int .u64 (((x : Nat) : Int)), .int .i64 level]) 13 Tryz.func112 rfl kr fun ac A H => XS (XR (Xb [0] A H fun ac w A H => XD (XT (XS (XR (Xb [0] A H fun ac w A H => Xc A H (Is_calls x w) fun ac w A H => Xb [0] A H fun ac w A H => ?_))))))
 refine Xs (isN x) (fun h1 => ?_) fun h1 => ?_
 ·
  have A := A.rb 7 h1
  refine Xb [0, 0] A H fun ac w A H => Xc A H (Offset_calls x level w (hL.below H.below) ko (hl)) fun ac w A H => Xb [0, 0, 0] A H fun ac w A H => XD (XT (XW (Xr [0] (.bool (((offsetN x level : Nat) : Int) == 0)) A H (congrArg Value.bool ?_))))
  first | (simp [h1]; done) | (rw [Bool.eq_iff_iff]; simp [h1]; done) | (rw [Bool.eq_iff_iff]; simp [h1]; omega)
 ·
  have A := A.rb 7 h1
  refine Xb [0, 0, 0, 0, 0, 0] A H fun ac w A H => XD (XT (XW (Xr [0] (.bool false) A H (congrArg Value.bool ?_))))
  first | (simp [h1]; done) | (rw [Bool.eq_iff_iff]; simp [h1]; done) | (rw [Bool.eq_iff_iff]; simp [h1]; omega)
theorem kernelAddr_calls   (w0 : World) : SX.Gives Tryz.prog 36 #[] w0 (.int .u64 (((ofN 133955584 : Nat) : Int))) := by
 refine SX.enter (args := []) 2 Tryz.func36 rfl kr fun ac A H => XS (XR (Xb [0] A H fun ac w A H => XD (XT (XS (XR (Xc A H (Of_calls 133955584 w) fun ac w A H => Xb [0] A H fun ac w A H => XD (XT (XW (Xr [0] (.int .u64 (((ofN 133955584 : Nat) : Int))) A H ?_)))))))))
 rfl
theorem sizeN_lt (l : Int) : sizeN l < 18446744073709551616 := by unfold sizeN; split <;> (try split) <;> omega
end Go.Proofs.YtfkmcdkncmapmaaGreatDoor
