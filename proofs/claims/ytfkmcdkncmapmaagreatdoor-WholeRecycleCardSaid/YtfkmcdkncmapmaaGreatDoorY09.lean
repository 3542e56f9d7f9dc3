/- Walks of functions, written by the session's own program wip/sx/sxgen.py; Lean checks them. -/
import Derived.Test.YtfkmcdkncmapmaaGreatDoorY02
import Derived.Test.YtfkmcdkncmapmaaGreatDoorY08
import Derived.Test.YtfkmcdkncmapmaaGreatDoorProg
set_option linter.unusedVariables false
set_option linter.unusedSimpArgs false
set_option maxRecDepth 100000
set_option maxHeartbeats 1000000
namespace Go.Proofs.YtfkmcdkncmapmaaGreatDoor
open Go Go.RowKit
theorem tz_calls (x : Nat)  (w0 : World) (hL : Ld w0) (hx : x < 18446744073709551616) : SX.Gives Tryz.prog 101 #[.int .u64 (((x : Nat) : Int))] w0 (.int .i64 (((ctz x : Nat) : Int))) := by
 refine SX.enter (args := [.int .u64 (((x : Nat) : Int))]) 14 Tryz.func101 rfl kr fun ac A H => XS (XR (Xb [0] A H fun ac w A H => XD (XT (XS (XS (XR (Xb [0, 0] A H fun ac w A H => XD (XT ?_))))))))
 refine Xs (((x : Nat) : Int) == 0) (fun h1 => ?_) fun h1 => ?_
 ·
  have A := A.rb 4 h1
  have h1p : x = 0 := kp h1
  refine Xt A (XS (XR (Xb [0] A H fun ac w A H => XD (XT (XW (XU (Xr [0] (.int .i64 64) A H ?_)))))))
  first | rfl | (rw [h1p, ctz_zero]; rfl)
 ·
  have A := A.rb 4 h1
  have h1p : ¬ (x = 0) := kp h1
  refine Xf A (XK (XT (XS (XR (Xb [0, 0, 0] A H fun ac w A H => ?_)))))
  have A := A.re 7 (.int .u64 (IntKind.u64.wrap (0 - ((x : Nat) : Int)))) (.int .u64 ((((18446744073709551616 - x) : Nat) : Int))) kr (neg_raw x h1p hx)
  refine Xb [0] A H fun ac w A H => ?_
  have A := A.re 8 (.int .u64 (IntKind.u64.wrap (((BitVec.ofInt IntKind.u64.bits ((x : Nat) : Int) &&& BitVec.ofInt IntKind.u64.bits (((18446744073709551616 - x) : Nat) : Int)).toNat : Nat) : Int))) (.int .u64 ((((2 ^ ctz x) : Nat) : Int))) kr (low_raw x h1p hx)
  refine Xb [0] A H fun ac w A H => ?_
  have A := A.re 9 (.int .u64 (IntKind.u64.wrap ((((2 ^ ctz x) : Nat) : Int) * 285870213051353865))) (.int .u64 ((((2 ^ ctz x * 285870213051353865 % 18446744073709551616) : Nat) : Int))) kr (SX.u_mulm _ _)
  refine Xb [0] A H fun ac w A H => ?_
  have A := A.re 10 (.int .u64 (Int.fdiv (((2 ^ ctz x * 285870213051353865 % 18446744073709551616) : Nat) : Int) (2 ^ (min (Int.toNat 58) IntKind.u64.bits)))) (.int .u64 ((((2 ^ ctz x * 285870213051353865 % 18446744073709551616 / 2 ^ (min 58 64)) : Nat) : Int))) kr (Bits.u_shr _ 58)
  refine SX.given A (SX.run_idx_array (P := Tryz.prog) (w := w) (T := 227) (E := 5) (sz := 1) (n := 64) (b := 1) (off := 0) (k := .u64) (i := 2 ^ ctz x * 285870213051353865 % 18446744073709551616 / 2 ^ (min 58 64)) Tryz.underlying227 kr (tab_ok (ctz x) (ctz_pos x hx h1p)).1) kr kr fun ac A => SX.given A (SX.run_load1 (P := Tryz.prog) (w := w) (T := 5) (b := 1) (o := 0 + 2 ^ ctz x * 285870213051353865 % 18446744073709551616 / 2 ^ (min 58 64) * 1) (v := .int .u8 ((ctz x : Nat) : Int)) kr (deb_cell (hL.below H.below) (ctz x) (ctz_pos x hx h1p))) kr kr fun ac A => Xb [0] A H fun ac w A H => ?_
  have A := A.re 13 (.int .i64 (IntKind.i64.wrap ((((ctz x) : Nat) : Int)))) (.int .i64 ((((ctz x) : Nat) : Int))) kr (SX.i_in _ ko (by have := ctz_pos x hx h1p; omega))
  refine Xb [0] A H fun ac w A H => XD (XT (XW (Xr [0] (.int .i64 ((((ctz x) : Nat) : Int))) A H ?_)))
  first | rfl | (rw [h1p, ctz_zero]; rfl)
namespace D
def Pool.isin (p : Pool) (f : Nat) : Bool := decide (p.base ≤ f) && decide (f - p.base < p.many.toNat)
def Pool.holds (p : Pool) (f : Nat) : Bool := p.isin f && decide (Bits.getN p.free (f - p.base) 1 = 0)
def Pool.give (p : Pool) (f : Nat) : Pool := if p.holds f then { p with free := Bits.setN p.free (f - p.base) 1 1 } else p
def Pool.take (p : Pool) : Pool := if p.free = 0 then p else { p with free := Bits.setN p.free (ctz p.free) 1 0 }
structure Pool.Ok (p : Pool) : Prop where
 base : p.base ≤ 524288
 many : 0 ≤ p.many ∧ p.many ≤ 64
 free : p.free < 18446744073709551616
def Asids.give (a : Asids) (n : Nat) : Asids := if n < 1 ∨ a.many < n ∨ Bits.getN a.free (n - 1) 1 = 1 then a else { a with free := Bits.setN a.free (n - 1) 1 1 }
def Asids.take (a : Asids) : Asids := if a.free = 0 then a else { a with free := Bits.setN a.free (ctz a.free) 1 0, owned := Bits.setN a.owned (ctz a.free) 1 1 }
structure Asids.Ok (a : Asids) : Prop where
 many : 0 ≤ a.many ∧ a.many ≤ 64
 free : a.free < 18446744073709551616
 owned : a.owned < 18446744073709551616
end D
theorem in_calls (p : D.Pool) (f : Nat)  (w0 : World) (hp : p.Ok) (hf : f < 18446744073709551616) : SX.Gives Tryz.prog 225 #[(D.Pool.enc p), .int .u64 (((f : Nat) : Int))] w0 (.bool (p.isin f)) := by
 have hp1 := hp.base
 have hp2 := hp.many
 have hp3 := hp.free
 refine SX.enter (args := [(D.Pool.enc p), .int .u64 (((f : Nat) : Int))]) 19 Tryz.func225 rfl kr fun ac A H => XS (XR (Xb [0, 0] A H fun ac w A H => XD (XT (XS (XR (Xb [0, 0, 0, 0, 0] A H fun ac w A H => ?_))))))
 refine Xs (decide (((f : Nat) : Int) ≥ ((p.base : Nat) : Int))) (fun h1 => ?_) fun h1 => ?_
 ·
  have A := A.rb 9 h1
  have h1p : f ≥ p.base := kp h1
  refine Xb [0, 0, 0, 0] A H fun ac w A H => ?_
  have A := A.re 13 (.int .u64 (IntKind.u64.wrap (((f : Nat) : Int) - ((p.base : Nat) : Int)))) (.int .u64 ((((f - p.base) : Nat) : Int))) kr (SX.u_sub f p.base ko ko)
  refine Xb [0, 0, 0] A H fun ac w A H => ?_
  have A := A.re 16 (.int .u64 (IntKind.u64.wrap (p.many))) (.int .u64 ((((p.many).toNat : Nat) : Int))) kr (SX.u_toNat _ ko ko)
  refine Xb [0, 0, 0] A H fun ac w A H => XD (XT (XW (Xr [0] (.bool (decide ((((f - p.base) : Nat) : Int) < (((p.many).toNat : Nat) : Int)))) A H (congrArg Value.bool ?_))))
  first | (simp [D.Pool.isin, h1, h1p]; done) | (rw [Bool.eq_iff_iff]; simp [D.Pool.isin, h1, h1p]; done) | (rw [Bool.eq_iff_iff]; simp [D.Pool.isin, h1, h1p]; omega)
 ·
  have A := A.rb 9 h1
  have h1p : ¬ (f ≥ p.base) := kp h1
  refine Xb [0, 0, 0, 0, 0, 0, 0, 0, 0, 0] A H fun ac w A H => XD (XT (XW (Xr [0] (.bool false) A H (congrArg Value.bool ?_))))
  first | (simp [D.Pool.isin, h1, h1p]; done) | (rw [Bool.eq_iff_iff]; simp [D.Pool.isin, h1, h1p]; done) | (rw [Bool.eq_iff_iff]; simp [D.Pool.isin, h1, h1p]; omega)
theorem pIs_calls (p : D.Pool) (f : Nat)  (w0 : World) (hp : p.Ok) (hf : f < 18446744073709551616) : SX.Gives Tryz.prog 197 #[(D.Pool.enc p), .int .u64 (((f : Nat) : Int))] w0 (.bool (p.holds f)) := by
 have hp1 := hp.base
 have hp2 := hp.many
 have hp3 := hp.free
 have hin : p.isin f = true → p.base ≤ f ∧ f - p.base < 64 := by intro h; simp [D.Pool.isin] at h; omega
 refine SX.enter (args := [(D.Pool.enc p), .int .u64 (((f : Nat) : Int))]) 19 Tryz.func197 rfl kr fun ac A H => XS (XR (Xb [0, 0] A H fun ac w A H => XD (XT (XS (XR (Xb [0, 0] A H fun ac w A H => Xc A H (in_calls p f w (hp) ko) fun ac w A H => Xb [0] A H fun ac w A H => ?_))))))
 refine Xs (p.isin f) (fun h1 => ?_) fun h1 => ?_
 ·
  have A := A.rb 8 h1
  refine Xb [0, 0, 0, 0, 0, 0] A H fun ac w A H => ?_
  have A := A.re 14 (.int .u64 (IntKind.u64.wrap (((f : Nat) : Int) - ((p.base : Nat) : Int)))) (.int .u64 ((((f - p.base) : Nat) : Int))) kr (SX.u_sub f p.base (hin h1).1 ko)
  refine Xb [0] A H fun ac w A H => ?_
  have A := A.re 15 (.int .i64 (IntKind.i64.wrap ((((f - p.base) : Nat) : Int)))) (.int .i64 ((((f - p.base) : Nat) : Int))) kr (SX.i_in _ ko (by have := (hin h1).2; omega))
  refine Xc A H (Get_calls p.free (f - p.base) 1 w ko (by have := (hin h1).2; omega) ko) fun ac w A H => Xb [0, 0, 0] A H fun ac w A H => XD (XT (XW (Xr [0] (.bool (((Bits.getN p.free (f - p.base) 1 : Nat) : Int) == 0)) A H (congrArg Value.bool ?_))))
  first | (simp [D.Pool.holds, h1]; done) | (rw [Bool.eq_iff_iff]; simp [D.Pool.holds, h1]; done) | (rw [Bool.eq_iff_iff]; simp [D.Pool.holds, h1]; omega)
 ·
  have A := A.rb 8 h1
  refine Xb [0, 0, 0, 0, 0, 0, 0, 0, 0, 0, 0] A H fun ac w A H => XD (XT (XW (Xr [0] (.bool false) A H (congrArg Value.bool ?_))))
  first | (simp [D.Pool.holds, h1]; done) | (rw [Bool.eq_iff_iff]; simp [D.Pool.holds, h1]; done) | (rw [Bool.eq_iff_iff]; simp [D.Pool.holds, h1]; omega)
theorem pGive_calls (p : D.Pool) (f : Nat)  (w0 : World) (hp : p.Ok) (hf : f < 18446744073709551616) : SX.Gives Tryz.prog 158 #[(D.Pool.enc p), .int .u64 (((f : Nat) : Int))] w0 ((.tuple #[(D.Pool.enc (p.give f)), .int .i64 (if p.holds f then (0 : Int) else 1)])) := by
 have hp1 := hp.base
 have hp2 := hp.many
 have hp3 := hp.free
 have hin : p.holds f = true → p.base ≤ f ∧ f - p.base < 64 := by intro h; simp [D.Pool.holds, D.Pool.isin] at h; omega
 refine SX.enter (args := [(D.Pool.enc p), .int .u64 (((f : Nat) : Int))]) 21 Tryz.func158 rfl kr fun ac A H => XS (XR (Xb [0, 0, 0] A H fun ac w A H => XD (XT (XS (XS (XR (Xb [0, 0] A H fun ac w A H => Xc A H (pIs_calls p f w (hp) ko) fun ac w A H => Xb [0] A H fun ac w A H => XD (XT ?_))))))))
 refine Xs (p.holds f) (fun h1 => ?_) fun h1 => ?_
 ·
  have A := A.re 9 (.bool (!(p.holds f))) (.bool false) kr (by rw [h1]; rfl)
  refine Xf A (XK (XT (XS (XR (Xb [0, 0, 0, 0, 0, 0] A H fun ac w A H => ?_)))))
  have A := A.re 16 (.int .u64 (IntKind.u64.wrap (((f : Nat) : Int) - ((p.base : Nat) : Int)))) (.int .u64 ((((f - p.base) : Nat) : Int))) kr (SX.u_sub f p.base (hin h1).1 ko)
  refine Xb [0] A H fun ac w A H => ?_
  have A := A.re 17 (.int .i64 (IntKind.i64.wrap ((((f - p.base) : Nat) : Int)))) (.int .i64 ((((f - p.base) : Nat) : Int))) kr (SX.i_in _ ko (by have := (hin h1).2; omega))
  refine Xc A H (Set_calls p.free (f - p.base) 1 1 w ko (by have := (hin h1).2; omega) ko) fun ac w A H => Xb [0, 0] A H fun ac w A H => XD (XT (XS (XR (Xb [0, 1, 0] A H fun ac w A H => XD (XT (XW (Xr [1, 0] ((.tuple #[(D.Pool.enc (⟨p.base, p.many, Bits.setN p.free (f - p.base) 1 1⟩ : D.Pool)), .int .i64 0])) A H ?_)))))))
  simp [D.Pool.give, h1, D.Pool.enc]
 ·
  have A := A.re 9 (.bool (!(p.holds f))) (.bool true) kr (by rw [h1]; rfl)
  refine Xt A (XS (XR (Xb [0, 1, 0] A H fun ac w A H => XD (XT (XW (XU (Xr [1, 0] ((.tuple #[(D.Pool.enc p), .int .i64 1])) A H ?_)))))))
  simp [D.Pool.give, h1, D.Pool.enc]
theorem pTake_calls (p : D.Pool)  (w0 : World) (hL : Ld w0) (hp : p.Ok) : SX.Gives Tryz.prog 65 #[(D.Pool.enc p)] w0 ((.tuple #[(D.Pool.enc p.take), .int .u64 (((if p.free = 0 then 0 else p.base + ctz p.free : Nat) : Int)), .int .i64 (if p.free = 0 then (8 : Int) else 0)])) := by
 have hp1 := hp.base
 have hp2 := hp.many
 have hp3 := hp.free
 have hc : p.free ≠ 0 → ctz p.free < 64 := ctz_pos p.free hp3
 refine SX.enter (args := [(D.Pool.enc p)]) 28 Tryz.func65 rfl kr fun ac A H => XS (XR (Xb [0, 0, 0, 0] A H fun ac w A H => XD (XT (XS (XS (XR (Xb [0, 0, 0, 0, 0, 0] A H fun ac w A H => SX.given A (SX.run_semEq (P := Tryz.prog) _ 39 (.tmp 6) (.tmp 11) #[.int .u64 (((p.base : Nat) : Int)), .int .i64 (p.many), .int .u64 (((p.free : Nat) : Int))] #[.int .u64 (((p.base : Nat) : Int)), .int .i64 (p.many), .int .u64 0] ((((p.base : Nat) : Int) == ((p.base : Nat) : Int) && (p.many == p.many && (((p.free : Nat) : Int) == 0 && true)))) kr (SX.eqA Tryz.underlying39 kr (SX.eqf kr kr ⟨.int .u64 (((p.base : Nat) : Int)), by kernel_rfl⟩ ⟨.int .u64 (((p.base : Nat) : Int)), by kernel_rfl⟩ (SX.eqf kr kr ⟨.int .i64 (p.many), by kernel_rfl⟩ ⟨.int .i64 (p.many), by kernel_rfl⟩ (SX.eqf kr kr ⟨.int .u64 (((p.free : Nat) : Int)), by kernel_rfl⟩ ⟨.int .u64 0, by kernel_rfl⟩ SX.eqf_nil))))) kr kr fun ac A => ?_)))))))
 have A := A.re 12 (.bool ((((p.base : Nat) : Int) == ((p.base : Nat) : Int) && (p.many == p.many && (((p.free : Nat) : Int) == 0 && true))))) (.bool (decide (p.free = 0))) kr (by congr 1; rw [Bool.eq_iff_iff]; simp <;> omega)
 refine XD (XT ?_)
 refine Xs (decide (p.free = 0)) (fun h1 => ?_) fun h1 => ?_
 ·
  have A := A.rb 12 h1
  refine Xt A (XS (XR (Xb [0, 1, 0, 0] A H fun ac w A H => XD (XT (XW (XU (Xr [1, 0, 0] ((.tuple #[(D.Pool.enc p), .int .u64 0, .int .i64 8])) A H ?_)))))))
  have h1q := h1; simp at h1q; simp [D.Pool.take, h1q, D.Pool.enc]
 ·
  have A := A.rb 12 h1
  refine Xf A (XK (XT (XS (XR (Xb [0, 0] A H fun ac w A H => Xc A H (tz_calls p.free w (hL.below H.below) ko) fun ac w A H => Xb [0] A H fun ac w A H => XD (XT (XS (XR (Xb [0, 0, 0] A H fun ac w A H => Xc A H (Set_calls p.free (ctz p.free) 1 0 w ko (by have := hc (by simpa using h1); omega) ko) fun ac w A H => Xb [0, 0] A H fun ac w A H => XD (XT (XS (SX.drawn 9 [0] kr A H fun w H => SX.takes [0] [(0, some 0), (1, none), (2, some 0), (3, none), (4, none)] A H kr kd kr kr kr (Or.inl kr) fun ac A => ?_))))))))))))
  have A := A.re 26 (.int .u64 (IntKind.u64.wrap (((ctz p.free : Nat) : Int)))) (.int .u64 ((((ctz p.free) : Nat) : Int))) kr (SX.u_in _ (by have := hc (by simpa using h1); omega))
  refine SX.takes [0] [(5, none)] A H kr kd kr kr kr (Or.inl kr) fun ac A => ?_
  have A := A.re 27 (.int .u64 (IntKind.u64.wrap (((p.base : Nat) : Int) + (((ctz p.free) : Nat) : Int)))) (.int .u64 ((((p.base + ctz p.free) : Nat) : Int))) kr (SX.u_add _ _ (by have := hc (by simpa using h1); omega))
  refine SX.act 6 1 [0] A H kr kr kr (Or.inl kr) fun ac w A H => SX.takes [0] [(7, none), (8, none)] A H kr kd kr kr kr (Or.inl kr) fun ac A => ?_
  refine SX.doneD kr ?_ _
  refine XT (XW (Xr [1, 0, 0] ((.tuple #[(D.Pool.enc (⟨p.base, p.many, Bits.setN p.free (ctz p.free) 1 0⟩ : D.Pool)), .int .u64 ((((p.base + ctz p.free) : Nat) : Int)), .int .i64 0])) A H ?_))
  have h1q := h1; simp at h1q; simp [D.Pool.take, h1q, D.Pool.enc]
theorem aGive_calls (x : D.Asids) (n : Nat)  (w0 : World) (ha : x.Ok) (hn : n < 18446744073709551616) : SX.Gives Tryz.prog 56 #[(D.Asids.enc x), .int .u64 (((n : Nat) : Int))] w0 ((.tuple #[(D.Asids.enc (x.give n)), .int .i64 (if n < 1 ∨ x.many < n ∨ Bits.getN x.free (n - 1) 1 = 1 then (1 : Int) else 0)])) := by
 have ha1 := ha.many
 have ha2 := ha.free
 refine SX.enter (args := [(D.Asids.enc x), .int .u64 (((n : Nat) : Int))]) 33 Tryz.func56 rfl kr fun ac A H => XS (XR (Xb [0, 0, 0] A H fun ac w A H => XD (XT (XS (XS (XR (Xb [0, 0, 0] A H fun ac w A H => ?_)))))))
 refine Xs (decide (((n : Nat) : Int) < 1)) (fun h1 => ?_) fun h1 => ?_
 ·
  have A := A.rb 8 h1
  have h1p : n < 1 := kp h1
  refine Xb [0, 0, 0, 0, 0, 0, 0, 0, 0, 0, 0, 0, 0, 0, 0] A H fun ac w A H => XD (XT (Xt A (XS (XR (Xb [0, 1, 0] A H fun ac w A H => XD (XT (XW (XU (Xr [1, 0] ((.tuple #[(D.Asids.enc x), .int .i64 1])) A H ?_)))))))))
  first | (rw [if_pos ko, D.Asids.give, if_pos ko] <;> rfl) | (rw [if_neg ko, D.Asids.give, if_neg ko] <;> rfl)
 ·
  have A := A.rb 8 h1
  have h1p : ¬ (n < 1) := kp h1
  refine Xb [0, 0, 0, 0] A H fun ac w A H => ?_
  have A := A.re 12 (.int .u64 (IntKind.u64.wrap (x.many))) (.int .u64 ((((x.many).toNat : Nat) : Int))) kr (SX.u_toNat _ ko ko)
  refine Xb [0, 0, 0] A H fun ac w A H => ?_
  refine Xs (decide (((n : Nat) : Int) > (((x.many).toNat : Nat) : Int))) (fun h2 => ?_) fun h2 => ?_
  ·
   have A := A.rb 15 h2
   have h2p : n > (x.many).toNat := kp h2
   refine Xb [0, 0, 0, 0, 0, 0, 0, 0] A H fun ac w A H => XD (XT (Xt A (XS (XR (Xb [0, 1, 0] A H fun ac w A H => XD (XT (XW (XU (Xr [1, 0] ((.tuple #[(D.Asids.enc x), .int .i64 1])) A H ?_)))))))))
   first | (rw [if_pos ko, D.Asids.give, if_pos ko] <;> rfl) | (rw [if_neg ko, D.Asids.give, if_neg ko] <;> rfl)
  ·
   have A := A.rb 15 h2
   have h2p : ¬ (n > (x.many).toNat) := kp h2
   refine Xb [0, 0, 0, 0] A H fun ac w A H => ?_
   have A := A.re 19 (.int .u64 (IntKind.u64.wrap (((n : Nat) : Int) - 1))) (.int .u64 ((((n - 1) : Nat) : Int))) kr (SX.u_sub n 1 ko ko)
   refine Xb [0] A H fun ac w A H => ?_
   have A := A.re 20 (.int .i64 (IntKind.i64.wrap ((((n - 1) : Nat) : Int)))) (.int .i64 ((((n - 1) : Nat) : Int))) kr (SX.i_in _ ko ko)
   refine Xc A H (Get_calls x.free (n - 1) 1 w ko ko ko) fun ac w A H => Xb [0, 0] A H fun ac w A H => XD (XT ?_)
   refine Xs (((Bits.getN x.free (n - 1) 1 : Nat) : Int) == 1) (fun h3 => ?_) fun h3 => ?_
   ·
    have A := A.rb 23 h3
    have h3p : Bits.getN x.free (n - 1) 1 = 1 := kp h3
    refine Xt A (XS (XR (Xb [0, 1, 0] A H fun ac w A H => XD (XT (XW (XU (Xr [1, 0] ((.tuple #[(D.Asids.enc x), .int .i64 1])) A H ?_)))))))
    first | (rw [if_pos ko, D.Asids.give, if_pos ko] <;> rfl) | (rw [if_neg ko, D.Asids.give, if_neg ko] <;> rfl)
   ·
    have A := A.rb 23 h3
    have h3p : ¬ (Bits.getN x.free (n - 1) 1 = 1) := kp h3
    refine Xf A (XK (XT (XS (XR (Xb [0, 0, 0, 0] A H fun ac w A H => ?_)))))
    have A := A.re 28 (.int .u64 (IntKind.u64.wrap (((n : Nat) : Int) - 1))) (.int .u64 ((((n - 1) : Nat) : Int))) kr (SX.u_sub n 1 ko ko)
    refine Xb [0] A H fun ac w A H => ?_
    have A := A.re 29 (.int .i64 (IntKind.i64.wrap ((((n - 1) : Nat) : Int)))) (.int .i64 ((((n - 1) : Nat) : Int))) kr (SX.i_in _ ko ko)
    refine Xc A H (Set_calls x.free (n - 1) 1 1 w ko ko ko) fun ac w A H => Xb [0, 0] A H fun ac w A H => XD (XT (XS (XR (Xb [0, 1, 0] A H fun ac w A H => XD (XT (XW (Xr [1, 0] ((.tuple #[(D.Asids.enc (⟨x.many, Bits.setN x.free (n - 1) 1 1, x.owned⟩ : D.Asids)), .int .i64 0])) A H ?_)))))))
    first | (rw [if_pos ko, D.Asids.give, if_pos ko] <;> rfl) | (rw [if_neg ko, D.Asids.give, if_neg ko] <;> rfl)
theorem fAsid_calls (n : Nat)  (w0 : World) : SX.Gives Tryz.prog 39 #[.int .u64 (((n : Nat) : Int))] w0 ((D.Fence.enc (⟨false, 0, true, n⟩ : D.Fence))) := by
 refine SX.enter (args := [.int .u64 (((n : Nat) : Int))]) 5 Tryz.func39 rfl kr fun ac A H => XS (XR (Xb [0] A H fun ac w A H => XD (XT (XS (XR (Xb [0, 0, 0] A H fun ac w A H => XD (XT (XW (Xr [0] ((D.Fence.enc (⟨false, 0, true, n⟩ : D.Fence))) A H ?_)))))))))
 rfl
end Go.Proofs.YtfkmcdkncmapmaaGreatDoor
