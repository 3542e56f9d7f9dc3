/- Walks of functions, written by the session's own program wip/sx/sxgen.py; Lean checks them. -/
import Derived.Test.YtfkmcdkncmapmaaGreatDoorY02
import Derived.Test.YtfkmcdkncmapmaaGreatDoorY11
import Derived.Test.YtfkmcdkncmapmaaGreatDoorProg
set_option linter.unusedVariables false
set_option linter.unusedSimpArgs false
set_option maxRecDepth 100000
set_option maxHeartbeats 1000000
namespace Go.Proofs.YtfkmcdkncmapmaaGreatDoor
open Go Go.RowKit
theorem pagesN_pos (l : Int) : 0 < sizeN l / 4096 := by unfold sizeN; split <;> (try split) <;> decide
def indexT (m vpn : Nat) (l : Int) : Nat := vpn / (sizeN l / 4096) % m
def D.Entry.may (e : D.Entry) : Bool := fits e.vpn 27 && (fits e.ppn 44 && (fits e.asid 16 && (even e.vpn (sizeN e.level / 4096) && even e.ppn (sizeN e.level / 4096))))
theorem tmod_bd (n b : Int) (hb : 0 < b) : -b < Int.tmod n b ∧ Int.tmod n b < b := by
 have h1 := Int.tmod_lt_of_pos n hb
 have h2 := Int.tmod_lt_of_pos (-n) hb
 rw [Int.neg_tmod] at h2
 omega
def restN (n b : Int) : Int := Int.tmod (Int.tmod n b + b) b
theorem restN_bd (n b : Int) (hb : 0 < b) : 0 ≤ restN n b ∧ restN n b < b := by
 have h := tmod_bd n b hb
 unfold restN
 rw [Int.tmod_eq_emod_of_nonneg ko]
 exact ⟨Int.emod_nonneg _ ko, Int.emod_lt_of_pos _ hb⟩
def permN (n : Nat) : D.Perm := ⟨D.bitB n 0, D.bitB n 1, D.bitB n 2, D.bitB n 3⟩
theorem eMay_calls (e : D.Entry)  (w0 : World) (hL : Ld w0) (hv : e.valid = true) (hl : e.level = 0 ∨ e.level = 1 ∨ e.level = 2) (h1 : e.vpn < 18446744073709551616) (h2 : e.ppn < 18446744073709551616) (h3 : e.asid < 18446744073709551616) : SX.Gives Tryz.prog 218 #[(D.Entry.enc e)] w0 (.bool e.may) := by
 obtain ⟨v, asi, g, lv, vpn, ppn, pm, d⟩ := e; simp only at hv hl h1 h2 h3; subst hv; rcases hl with rfl | rfl | rfl
 ·
  refine SX.enter (args := [(D.Entry.enc (⟨true, asi, g, 0, vpn, ppn, (⟨pm.r, pm.w, pm.x, pm.u⟩ : D.Perm), d⟩ : D.Entry))]) 48 Tryz.func218 rfl kr fun ac A H => XS (XR (Xb [0, 0] A H fun ac w A H => XD (XT (XS (XS (XR (Xb [0, 0, 0, 0, 0, 0, 0, 0, 0, 0, 0, 0, 0] A H fun ac w A H => XD (XT (Xf A (XK (XT (XS (XR (Xb [0, 0] A H fun ac w A H => Xc A H (pages_calls 0 w (hL.below H.below) ko) fun ac w A H => Xb [0] A H fun ac w A H => XD (XT (XS (XR (Xb [0, 0] A H fun ac w A H => Xc A H (efits_calls vpn 27 w ko ko) fun ac w A H => Xb [0] A H fun ac w A H => ?_))))))))))))))))))
  refine Xs (fits vpn 27) (fun h1 => ?_) fun h1 => ?_
  ·
   have A := A.rb 26 h1
   refine Xb [0, 0] A H fun ac w A H => Xc A H (efits_calls ppn 44 w ko ko) fun ac w A H => Xb [0, 0] A H fun ac w A H => ?_
   refine Xs (fits ppn 44) (fun h2 => ?_) fun h2 => ?_
   ·
    have A := A.rb 31 h2
    refine Xb [0, 0] A H fun ac w A H => Xc A H (efits_calls asi 16 w ko ko) fun ac w A H => Xb [0, 0] A H fun ac w A H => ?_
    refine Xs (fits asi 16) (fun h3 => ?_) fun h3 => ?_
    ·
     have A := A.rb 36 h3
     refine Xb [0, 0, 0] A H fun ac w A H => Xc A H (Even_calls vpn (sizeN 0 / 4096) w) fun ac w A H => Xb [0, 0] A H fun ac w A H => ?_
     refine Xs (even vpn (sizeN 0 / 4096)) (fun h4 => ?_) fun h4 => ?_
     ·
      have A := A.rb 42 h4
      refine Xb [0, 0, 0] A H fun ac w A H => Xc A H (Even_calls ppn (sizeN 0 / 4096) w) fun ac w A H => Xb [0, 0] A H fun ac w A H => XD (XT (XW (Xr [0] (.bool (even ppn (sizeN 0 / 4096))) A H (congrArg Value.bool ?_))))
      first | (simp [D.Entry.may, h1, h2, h3, h4]; done) | (rw [Bool.eq_iff_iff]; simp [D.Entry.may, h1, h2, h3, h4]; done) | (rw [Bool.eq_iff_iff]; simp [D.Entry.may, h1, h2, h3, h4]; omega)
     ·
      have A := A.rb 42 h4
      refine Xb [0, 0, 0, 0, 0, 0] A H fun ac w A H => XD (XT (XW (Xr [0] (.bool false) A H (congrArg Value.bool ?_))))
      first | (simp [D.Entry.may, h1, h2, h3, h4]; done) | (rw [Bool.eq_iff_iff]; simp [D.Entry.may, h1, h2, h3, h4]; done) | (rw [Bool.eq_iff_iff]; simp [D.Entry.may, h1, h2, h3, h4]; omega)
    ·
     have A := A.rb 36 h3
     refine Xb [0, 0, 0, 0, 0, 0, 0, 0, 0, 0, 0, 0] A H fun ac w A H => XD (XT (XW (Xr [0] (.bool false) A H (congrArg Value.bool ?_))))
     first | (simp [D.Entry.may, h1, h2, h3]; done) | (rw [Bool.eq_iff_iff]; simp [D.Entry.may, h1, h2, h3]; done) | (rw [Bool.eq_iff_iff]; simp [D.Entry.may, h1, h2, h3]; omega)
   ·
    have A := A.rb 31 h2
    refine Xb [0, 0, 0, 0, 0, 0, 0, 0, 0, 0, 0, 0, 0, 0, 0, 0, 0] A H fun ac w A H => XD (XT (XW (Xr [0] (.bool false) A H (congrArg Value.bool ?_))))
    first | (simp [D.Entry.may, h1, h2]; done) | (rw [Bool.eq_iff_iff]; simp [D.Entry.may, h1, h2]; done) | (rw [Bool.eq_iff_iff]; simp [D.Entry.may, h1, h2]; omega)
  ·
   have A := A.rb 26 h1
   refine Xb [0, 0, 0, 0, 0, 0, 0, 0, 0, 0, 0, 0, 0, 0, 0, 0, 0, 0, 0, 0, 0, 0] A H fun ac w A H => XD (XT (XW (Xr [0] (.bool false) A H (congrArg Value.bool ?_))))
   first | (simp [D.Entry.may, h1]; done) | (rw [Bool.eq_iff_iff]; simp [D.Entry.may, h1]; done) | (rw [Bool.eq_iff_iff]; simp [D.Entry.may, h1]; omega)
 ·
  refine SX.enter (args := [(D.Entry.enc (⟨true, asi, g, 1, vpn, ppn, (⟨pm.r, pm.w, pm.x, pm.u⟩ : D.Perm), d⟩ : D.Entry))]) 48 Tryz.func218 rfl kr fun ac A H => XS (XR (Xb [0, 0] A H fun ac w A H => XD (XT (XS (XS (XR (Xb [0, 0, 0, 0, 0, 0, 0, 0, 0, 0, 0, 0, 0] A H fun ac w A H => XD (XT (Xf A (XK (XT (XS (XR (Xb [0, 0] A H fun ac w A H => Xc A H (pages_calls 1 w (hL.below H.below) ko) fun ac w A H => Xb [0] A H fun ac w A H => XD (XT (XS (XR (Xb [0, 0] A H fun ac w A H => Xc A H (efits_calls vpn 27 w ko ko) fun ac w A H => Xb [0] A H fun ac w A H => ?_))))))))))))))))))
  refine Xs (fits vpn 27) (fun h5 => ?_) fun h5 => ?_
  ·
   have A := A.rb 26 h5
   refine Xb [0, 0] A H fun ac w A H => Xc A H (efits_calls ppn 44 w ko ko) fun ac w A H => Xb [0, 0] A H fun ac w A H => ?_
   refine Xs (fits ppn 44) (fun h6 => ?_) fun h6 => ?_
   ·
    have A := A.rb 31 h6
    refine Xb [0, 0] A H fun ac w A H => Xc A H (efits_calls asi 16 w ko ko) fun ac w A H => Xb [0, 0] A H fun ac w A H => ?_
    refine Xs (fits asi 16) (fun h7 => ?_) fun h7 => ?_
    ·
     have A := A.rb 36 h7
     refine Xb [0, 0, 0] A H fun ac w A H => Xc A H (Even_calls vpn (sizeN 1 / 4096) w) fun ac w A H => Xb [0, 0] A H fun ac w A H => ?_
     refine Xs (even vpn (sizeN 1 / 4096)) (fun h8 => ?_) fun h8 => ?_
     ·
      have A := A.rb 42 h8
      refine Xb [0, 0, 0] A H fun ac w A H => Xc A H (Even_calls ppn (sizeN 1 / 4096) w) fun ac w A H => Xb [0, 0] A H fun ac w A H => XD (XT (XW (Xr [0] (.bool (even ppn (sizeN 1 / 4096))) A H (congrArg Value.bool ?_))))
      first | (simp [D.Entry.may, h5, h6, h7, h8]; done) | (rw [Bool.eq_iff_iff]; simp [D.Entry.may, h5, h6, h7, h8]; done) | (rw [Bool.eq_iff_iff]; simp [D.Entry.may, h5, h6, h7, h8]; omega)
     ·
      have A := A.rb 42 h8
      refine Xb [0, 0, 0, 0, 0, 0] A H fun ac w A H => XD (XT (XW (Xr [0] (.bool false) A H (congrArg Value.bool ?_))))
      first | (simp [D.Entry.may, h5, h6, h7, h8]; done) | (rw [Bool.eq_iff_iff]; simp [D.Entry.may, h5, h6, h7, h8]; done) | (rw [Bool.eq_iff_iff]; simp [D.Entry.may, h5, h6, h7, h8]; omega)
    ·
     have A := A.rb 36 h7
     refine Xb [0, 0, 0, 0, 0, 0, 0, 0, 0, 0, 0, 0] A H fun ac w A H => XD (XT (XW (Xr [0] (.bool false) A H (congrArg Value.bool ?_))))
     first | (simp [D.Entry.may, h5, h6, h7]; done) | (rw [Bool.eq_iff_iff]; simp [D.Entry.may, h5, h6, h7]; done) | (rw [Bool.eq_iff_iff]; simp [D.Entry.may, h5, h6, h7]; omega)
   ·
    have A := A.rb 31 h6
    refine Xb [0, 0, 0, 0, 0, 0, 0, 0, 0, 0, 0, 0, 0, 0, 0, 0, 0] A H fun ac w A H => XD (XT (XW (Xr [0] (.bool false) A H (congrArg Value.bool ?_))))
    first | (simp [D.Entry.may, h5, h6]; done) | (rw [Bool.eq_iff_iff]; simp [D.Entry.may, h5, h6]; done) | (rw [Bool.eq_iff_iff]; simp [D.Entry.may, h5, h6]; omega)
  ·
   have A := A.rb 26 h5
   refine Xb [0, 0, 0, 0, 0, 0, 0, 0, 0, 0, 0, 0, 0, 0, 0, 0, 0, 0, 0, 0, 0, 0] A H fun ac w A H => XD (XT (XW (Xr [0] (.bool false) A H (congrArg Value.bool ?_))))
   first | (simp [D.Entry.may, h5]; done) | (rw [Bool.eq_iff_iff]; simp [D.Entry.may, h5]; done) | (rw [Bool.eq_iff_iff]; simp [D.Entry.may, h5]; omega)
 ·
  refine SX.enter (args := [(D.Entry.enc (⟨true, asi, g, 2, vpn, ppn, (⟨pm.r, pm.w, pm.x, pm.u⟩ : D.Perm), d⟩ : D.Entry))]) 48 Tryz.func218 rfl kr fun ac A H => XS (XR (Xb [0, 0] A H fun ac w A H => XD (XT (XS (XS (XR (Xb [0, 0, 0, 0, 0, 0, 0, 0, 0, 0, 0, 0, 0] A H fun ac w A H => XD (XT (Xf A (XK (XT (XS (XR (Xb [0, 0] A H fun ac w A H => Xc A H (pages_calls 2 w (hL.below H.below) ko) fun ac w A H => Xb [0] A H fun ac w A H => XD (XT (XS (XR (Xb [0, 0] A H fun ac w A H => Xc A H (efits_calls vpn 27 w ko ko) fun ac w A H => Xb [0] A H fun ac w A H => ?_))))))))))))))))))
  refine Xs (fits vpn 27) (fun h9 => ?_) fun h9 => ?_
  ·
   have A := A.rb 26 h9
   refine Xb [0, 0] A H fun ac w A H => Xc A H (efits_calls ppn 44 w ko ko) fun ac w A H => Xb [0, 0] A H fun ac w A H => ?_
   refine Xs (fits ppn 44) (fun h10 => ?_) fun h10 => ?_
   ·
    have A := A.rb 31 h10
    refine Xb [0, 0] A H fun ac w A H => Xc A H (efits_calls asi 16 w ko ko) fun ac w A H => Xb [0, 0] A H fun ac w A H => ?_
    refine Xs (fits asi 16) (fun h11 => ?_) fun h11 => ?_
    ·
     have A := A.rb 36 h11
     refine Xb [0, 0, 0] A H fun ac w A H => Xc A H (Even_calls vpn (sizeN 2 / 4096) w) fun ac w A H => Xb [0, 0] A H fun ac w A H => ?_
     refine Xs (even vpn (sizeN 2 / 4096)) (fun h12 => ?_) fun h12 => ?_
     ·
      have A := A.rb 42 h12
      refine Xb [0, 0, 0] A H fun ac w A H => Xc A H (Even_calls ppn (sizeN 2 / 4096) w) fun ac w A H => Xb [0, 0] A H fun ac w A H => XD (XT (XW (Xr [0] (.bool (even ppn (sizeN 2 / 4096))) A H (congrArg Value.bool ?_))))
      first | (simp [D.Entry.may, h9, h10, h11, h12]; done) | (rw [Bool.eq_iff_iff]; simp [D.Entry.may, h9, h10, h11, h12]; done) | (rw [Bool.eq_iff_iff]; simp [D.Entry.may, h9, h10, h11, h12]; omega)
     ·
      have A := A.rb 42 h12
      refine Xb [0, 0, 0, 0, 0, 0] A H fun ac w A H => XD (XT (XW (Xr [0] (.bool false) A H (congrArg Value.bool ?_))))
      first | (simp [D.Entry.may, h9, h10, h11, h12]; done) | (rw [Bool.eq_iff_iff]; simp [D.Entry.may, h9, h10, h11, h12]; done) | (rw [Bool.eq_iff_iff]; simp [D.Entry.may, h9, h10, h11, h12]; omega)
    ·
     have A := A.rb 36 h11
     refine Xb [0, 0, 0, 0, 0, 0, 0, 0, 0, 0, 0, 0] A H fun ac w A H => XD (XT (XW (Xr [0] (.bool false) A H (congrArg Value.bool ?_))))
     first | (simp [D.Entry.may, h9, h10, h11]; done) | (rw [Bool.eq_iff_iff]; simp [D.Entry.may, h9, h10, h11]; done) | (rw [Bool.eq_iff_iff]; simp [D.Entry.may, h9, h10, h11]; omega)
   ·
    have A := A.rb 31 h10
    refine Xb [0, 0, 0, 0, 0, 0, 0, 0, 0, 0, 0, 0, 0, 0, 0, 0, 0] A H fun ac w A H => XD (XT (XW (Xr [0] (.bool false) A H (congrArg Value.bool ?_))))
    first | (simp [D.Entry.may, h9, h10]; done) | (rw [Bool.eq_iff_iff]; simp [D.Entry.may, h9, h10]; done) | (rw [Bool.eq_iff_iff]; simp [D.Entry.may, h9, h10]; omega)
  ·
   have A := A.rb 26 h9
   refine Xb [0, 0, 0, 0, 0, 0, 0, 0, 0, 0, 0, 0, 0, 0, 0, 0, 0, 0, 0, 0, 0, 0] A H fun ac w A H => XD (XT (XW (Xr [0] (.bool false) A H (congrArg Value.bool ?_))))
   first | (simp [D.Entry.may, h9]; done) | (rw [Bool.eq_iff_iff]; simp [D.Entry.may, h9]; done) | (rw [Bool.eq_iff_iff]; simp [D.Entry.may, h9]; omega)
theorem tIndex_calls (m : Nat) (vpn : Nat) (level : Int)  (w0 : World) (hL : Ld w0) (hm : 0 < m) (hm2 : m < 9223372036854775808) (hx : vpn < 18446744073709551616) (hl : level = 0 ∨ level = 1 ∨ level = 2) : SX.Gives Tryz.prog 219 #[.int .i64 (((m : Nat) : Int)), .int .u64 (((vpn : Nat) : Int)), .int .i64 level] w0 (.int .i64 (((indexT m vpn level : Nat) : Int))) := by
 refine SX.enter (args := [.int .i64 (((m : Nat) : Int)), .int .u64 (((vpn : Nat) : Int)), .int .i64 level]) 16 Tryz.func219 rfl kr fun ac A H => XS (XR (Xb [0] A H fun ac w A H => XD (XT (XS (XR (Xb [0, 0] A H fun ac w A H => Xc A H (Size_calls level w (hL.below H.below) (hl)) fun ac w A H => Xb [0] A H fun ac w A H => ?_))))))
 have A := A.re 10 (.int .u64 (IntKind.u64.wrap (Int.tdiv ((sizeN level : Nat) : Int) 4096))) (.int .u64 ((((sizeN level / 4096) : Nat) : Int))) kr (SX.u_quo _ _ (sizeN_lt level))
 refine SX.given A (SX.run_quo Tryz.prog 27 .u64 (((vpn : Nat) : Int)) ((((sizeN level / 4096) : Nat) : Int)) w (by first | omega | (have := pagesN_pos level; omega))) kr kr fun ac A => ?_
 have A := A.re 11 (.int .u64 (IntKind.u64.wrap (Int.tdiv ((vpn : Nat) : Int) (((sizeN level / 4096) : Nat) : Int)))) (.int .u64 ((((vpn / (sizeN level / 4096)) : Nat) : Int))) kr (SX.u_quo vpn (sizeN level / 4096) ko)
 refine Xb [0, 0] A H fun ac w A H => ?_
 have A := A.re 13 (.int .u64 (IntKind.u64.wrap (((m : Nat) : Int)))) (.int .u64 (((m : Nat) : Int))) kr (SX.u_in _ ko)
 refine SX.given A (SX.run_rem Tryz.prog 27 .u64 ((((vpn / (sizeN level / 4096)) : Nat) : Int)) (((m : Nat) : Int)) w (by first | omega | (have := pagesN_pos level; omega))) kr kr fun ac A => ?_
 have A := A.re 14 (.int .u64 (Int.tmod (((vpn / (sizeN level / 4096)) : Nat) : Int) ((m : Nat) : Int))) (.int .u64 (((((vpn / (sizeN level / 4096)) % m) : Nat) : Int))) kr (SX.u_rem (vpn / (sizeN level / 4096)) m)
 refine Xb [0] A H fun ac w A H => ?_
 have A := A.re 15 (.int .i64 (IntKind.i64.wrap (((((vpn / (sizeN level / 4096)) % m) : Nat) : Int)))) (.int .i64 ((((indexT m vpn level) : Nat) : Int))) kr (SX.i_in _ ko (by have : vpn / (sizeN level / 4096) % m < m := Nat.mod_lt _ hm; omega))
 refine Xb [0] A H fun ac w A H => XD (XT (XW (Xr [0] (.int .i64 ((((indexT m vpn level) : Nat) : Int))) A H ?_)))
 rfl
theorem rest_calls (n : Int) (b : Int)  (w0 : World) (hb : 0 < b) (hb2 : b ≤ 4096) : SX.Gives Tryz.prog 161 #[.int .i64 n, .int .i64 b] w0 (.int .i64 (restN n b)) := by
 have hm := tmod_bd n b hb
 refine SX.enter (args := [.int .i64 n, .int .i64 b]) 12 Tryz.func161 rfl kr fun ac A H => XS (XR (Xb [0] A H fun ac w A H => XD (XT (XS (XR (Xb [0, 0] A H fun ac w A H => SX.given A (SX.run_rem Tryz.prog 3 .i64 (n) (b) w ko) kr kr fun ac A => Xb [0, 0] A H fun ac w A H => ?_))))))
 have A := A.re 9 (.int .i64 (IntKind.i64.wrap ((Int.tmod n b) + b))) (.int .i64 (((Int.tmod n b) + b))) kr (SX.i_in _ ko ko)
 refine Xb [0] A H fun ac w A H => SX.given A (SX.run_rem Tryz.prog 3 .i64 (((Int.tmod n b) + b)) (b) w ko) kr kr fun ac A => Xb [0] A H fun ac w A H => XD (XT (XW (Xr [0] (.int .i64 (Int.tmod ((Int.tmod n b) + b) b)) A H ?_)))
 rfl
theorem perm1_calls (i : Nat) (n : Int) (w0 : World) (bn : Nat) (Tn : TypeId) (fn : Nat × Nat) (hbn : w0.heap[bn]? = some (.cells #[.int .i64 n] Tn fn)) (hn : 0 ≤ n) (hn2 : n < 9223372036854775808) (hi : i < 9223372036854775808) : SX.Gives Tryz.prog 198 #[.int .i64 (((i : Nat) : Int)), .pointer (some ⟨bn, 0, none⟩)] w0 (.bool (D.bitB n.toNat i)) := by
 refine SX.enter (args := [.int .i64 (((i : Nat) : Int)), .pointer (some ⟨bn, 0, none⟩)]) 9 Tryz.func198 rfl kr fun ac A H => ?_
 have H := H.fb_old hbn
 refine XS (XR (Xb [0] A H fun ac w A H => XD (XT (XS (XR (Xb [1000, 0] A H fun ac w A H => ?_))))))
 have A := A.re 5 (.int .u64 (IntKind.u64.wrap (n))) (.int .u64 ((((n).toNat : Nat) : Int))) kr (SX.u_toNat _ ko ko)
 refine Xb [0] A H fun ac w A H => Xc A H (Get_calls ((n).toNat) i 1 w ko ko ko) fun ac w A H => Xb [0, 0] A H fun ac w A H => XD (XT (XW (Xr [0] (.bool (((Bits.getN ((n).toNat) i 1 : Nat) : Int) == 1)) A H ?_)))
 exact congrArg Value.bool (bitB_raw _ i)
theorem perm_calls (n : Int)  (w0 : World) (hn : 0 ≤ n) (hn2 : n < 9223372036854775808) : SX.Gives Tryz.prog 162 #[.int .i64 n] w0 ((D.Perm.enc (permN n.toNat))) := by
 refine SX.enter (args := [.int .i64 n]) 14 Tryz.func162 rfl kr fun ac A H => XS (XR (Xb [0, 0] A H fun ac w A H => XD (XT (XS (XR (Xb [0, 0] A H fun ac w A H => XD (XT (XS (XR (Xb [0] A H fun ac w A H => Xc A H (perm1_calls 0 n w (SX.boxB _ 0) 3 (0, 0) (SX.boxHas H 0 #[.int .i64 n] 3 kr kr) ko ko ko) fun ac w A H => Xb [0] A H fun ac w A H => Xc A H (perm1_calls 1 n w (SX.boxB _ 0) 3 (0, 0) (SX.boxHas H 0 #[.int .i64 n] 3 kr kr) ko ko ko) fun ac w A H => Xb [0] A H fun ac w A H => Xc A H (perm1_calls 2 n w (SX.boxB _ 0) 3 (0, 0) (SX.boxHas H 0 #[.int .i64 n] 3 kr kr) ko ko ko) fun ac w A H => Xb [0] A H fun ac w A H => Xc A H (perm1_calls 3 n w (SX.boxB _ 0) 3 (0, 0) (SX.boxHas H 0 #[.int .i64 n] 3 kr kr) ko ko ko) fun ac w A H => Xb [0, 1] A H fun ac w A H => XD (XT (XW (Xr [1] ((D.Perm.enc (⟨D.bitB n.toNat 0, D.bitB n.toNat 1, D.bitB n.toNat 2, D.bitB n.toNat 3⟩ : D.Perm))) A H ?_)))))))))))))
 rfl
end Go.Proofs.YtfkmcdkncmapmaaGreatDoor
set_option linter.unusedVariables false
set_option linter.unusedSimpArgs false
set_option maxRecDepth 100000
set_option maxHeartbeats 1000000
namespace Go.Proofs.YtfkmcdkncmapmaaGreatDoor
open Go Go.RowKit
theorem cmpN_eq (x y : Nat) : (cmpN x y == 0) = decide (x = y) := by
 rw [Bool.eq_iff_iff]; simp only [beq_iff_eq, decide_eq_true_eq]; unfold cmpN; split <;> (try split) <;> omega
def D.cellsF (s : SX.Sl) (l : List D.Cell) : SX.Fact := SX.slF s 2 (l.flatMap D.Cell.cells)
theorem find1_step {l : List D.Cell} (hs : l.Pairwise fun a b => a.at_ < b.at_) {k m : Nat} {c : D.Cell} (hc : l[m]? = some c) : (∀ t d, cmpN c.at_ k < 0 → t < m + 1 → l[t]? = some d → d.at_ < k) ∧ (∀ t d, ¬ cmpN c.at_ k < 0 → m ≤ t → l[t]? = some d → k ≤ d.at_) := by
 unfold cmpN
 refine ⟨fun t d h1 h2 h3 => ?_, fun t d h1 h2 h3 => ?_⟩
 · have : c.at_ < k := by split at h1 <;> (try split at h1) <;> omega
   rcases Nat.lt_or_eq_of_le (Nat.le_of_lt_succ h2) with h | rfl
   · have := D.sorted_lt hs h3 hc h; omega
   · rw [hc] at h3; cases h3; exact this
 · have : k ≤ c.at_ := by split at h1 <;> (try split at h1) <;> omega
   rcases Nat.lt_or_eq_of_le h2 with h | rfl
   · have := D.sorted_lt hs hc h3 h; omega
   · rw [hc] at h3; cases h3; exact this
theorem bsearch_calls (x : List D.Cell) (k : Nat)  {no : List Nat} (s1 : SX.Sl) (w0 : World) (hno : ∀ b ∈ no, b < w0.heap.size) (hs1 : (D.cellsF s1 x).P w0 no) (hs : x.Pairwise fun a b => a.at_ < b.at_) (hn : x.length ≤ 137438953472) (hk : k < 18446744073709551616) : SX.Gives Tryz.prog 199 #[.slice s1.a s1.n s1.c, .int .u64 (((k : Nat) : Int)), .func (.func 200) #[] #[]] w0 ((.tuple #[.int .i64 (((D.low x k : Nat) : Int)), .bool (D.has x k)])) := by
 refine SX.enterN (args := [.slice s1.a s1.n s1.c, .int .u64 (((k : Nat) : Int)), .func (.func 200) #[] #[]]) (hno := hno) 49 Tryz.func199 rfl kr fun ac A H => ?_
 have H := H.known (D.cellsF s1 x) hs1
 refine XS (XR (Xb [0, 0] A H fun ac w A H => XD (XT (XS (XR (Xb [0, 0] A H fun ac w A H => ?_))))))
 have A := A.re 13 (.int .i64 (((s1.n : Nat) : Int))) (.int .i64 (((x.length : Nat) : Int))) kr (by rw [SX.SlAt.count D.Cell.len kc (H.fact' 0 (D.cellsF s1 x) kr)])
 refine Xb [0] A H fun ac w A H => XD (XT (XS (XR (Xb [0, 0, 0] A H fun ac w A H => XD (XT (XS (XB ?_)))))))
 refine SX.loopG (σ := Nat × Nat) (fun g ac w => match g with | (i, j) => (i ≤ j ∧ j ≤ x.length ∧ (∀ t c, t < i → x[t]? = some c → c.at_ < k) ∧ (∀ t c, j ≤ t → x[t]? = some c → k ≤ c.at_)) ∧ SX.Agrees 49 ac [(0, .slice s1.a s1.n s1.c), (1, .int .u64 (((k : Nat) : Int))), (2, .func (.func 200) #[] #[]), (8, .int .i64 (((x.length : Nat) : Int))), (9, .int .i64 (((i : Nat) : Int))), (10, .int .i64 (((j : Nat) : Int)))] ∧ SX.Own w0 w [] ⟨[(D.cellsF s1 x)], (SX.roOf H).fb, (SX.roOf H).no⟩) (fun g => match g with | (i, j) => j - i) (0, x.length) ?_ ?_
 · exact ⟨(⟨Nat.zero_le _, Nat.le_refl _, fun t c h => absurd h ko, fun t c h h2 => by rw [List.getElem?_eq_none h] at h2; cases h2⟩), A.sub _ kr, (H.pick [] _ kc kr).ro_pick [0] _ kr⟩
 rintro ⟨i, j⟩ ac w ⟨hI, A, H⟩
 refine XS (XS (XR (Xb [0, 0, 0] A H fun ac w A H => XD (XT ?_))))
 refine Xs (decide (((i : Nat) : Int) < ((j : Nat) : Int))) (fun h1 => ?_) fun h1 => ?_
 ·
  have A := A.rb 17 h1
  have h1p : ((i : Nat) : Int) < ((j : Nat) : Int) := kp h1
  refine Xt A (XK (XT (XB (XS (XR (Xb [0, 0, 0] A H fun ac w A H => ?_))))))
  have A := A.re 20 (.int .i64 (IntKind.i64.wrap (((i : Nat) : Int) + ((j : Nat) : Int)))) (.int .i64 ((((i + j) : Nat) : Int))) kr (SX.i_addN i j ko)
  refine Xb [0] A H fun ac w A H => ?_
  have A := A.re 21 (.int .u64 (IntKind.u64.wrap ((((i + j) : Nat) : Int)))) (.int .u64 ((((i + j) : Nat) : Int))) kr (SX.u_in _ ko)
  refine Xb [0] A H fun ac w A H => ?_
  have A := A.re 22 (.int .u64 (Int.fdiv (((i + j) : Nat) : Int) (2 ^ (min (Int.toNat 1) IntKind.u64.bits)))) (.int .u64 (((((i + j) / 2) : Nat) : Int))) kr (Bits.u_shr _ 1)
  refine Xb [0] A H fun ac w A H => ?_
  have A := A.re 23 (.int .i64 (IntKind.i64.wrap (((((i + j) / 2) : Nat) : Int)))) (.int .i64 (((((i + j) / 2) : Nat) : Int))) kr (SX.i_in _ ko ko)
  refine Xb [0] A H fun ac w A H => XD (XT (XS (XR (Xb [0, 0, 0] A H fun ac w A H => ?_))))
  obtain ⟨e1, he1⟩ := SX.get_of_lt (l := x) (i := ((i + j) / 2)) ko
  refine SX.given A (SX.run_idx (P := Tryz.prog) (H.fact' 0 (D.cellsF s1 x) kr) (T := 28) (E := 200) (k := .i64) (i := ((i + j) / 2)) Tryz.underlying28 kr (by rw [SX.SlAt.count D.Cell.len kc (H.fact' 0 (D.cellsF s1 x) kr)]; exact (List.getElem?_eq_some_iff.1 he1).1)) kr kr fun ac A => ?_
  refine SX.given A (SX.run_loadN (P := Tryz.prog) (T := 200) (b := s1.blk) (o := s1.off + ((i + j) / 2) * 2) (D.Cell.cells e1) kr kr (fun k hk => SX.SlAt.elem D.Cell.len (H.fact' 0 (D.cellsF s1 x) kr) he1 hk)) kr kr fun ac A => Xb [0] A H fun ac w A H => Xc A H (find1_calls e1 k w) fun ac w A H => Xb [0] A H fun ac w A H => XD (XT ?_)
  refine Xs (decide ((cmpN e1.at_ k) < 0)) (fun h2 => ?_) fun h2 => ?_
  ·
   have A := A.rb 31 h2
   have h2p : cmpN e1.at_ k < 0 := kp h2
   refine Xt A (XR (Xb [0, 0] A H fun ac w A H => ?_))
   have A := A.re 33 (.int .i64 (IntKind.i64.wrap (((((i + j) / 2) : Nat) : Int) + 1))) (.int .i64 ((((((i + j) / 2) + 1) : Nat) : Int))) kr (SX.i_addN ((i + j) / 2) 1 ko)
   refine Xb [0] A H fun ac w A H => XD (XN (XT ?_))
   exact ⟨((((i + j) / 2) + 1), j), ⟨(⟨by omega, by omega, fun t d => (find1_step hs he1).1 t d (by simpa using h2), hI.2.2.2⟩), A.sub _ kr, (H.pick [] _ kc kr).ro_pick [0] _ kr⟩, by show (j) - ((((i + j) / 2) + 1)) < j - i; omega⟩
  ·
   have A := A.rb 31 h2
   have h2p : ¬ (cmpN e1.at_ k < 0) := kp h2
   refine Xf A (XR (Xb [0, 0] A H fun ac w A H => XD (XN (XT ?_))))
   exact ⟨(i, ((i + j) / 2)), ⟨(⟨by omega, by omega, hI.2.2.1, fun t d => (find1_step hs he1).2 t d (by simpa using h2)⟩), A.sub _ kr, (H.pick [] _ kc kr).ro_pick [0] _ kr⟩, by show (((i + j) / 2)) - (i) < j - i; omega⟩
 ·
  have A := A.rb 17 h1
  have h1p : ¬ (((i : Nat) : Int) < ((j : Nat) : Int)) := kp h1
  refine Xf A (XI (XX (XX (XE (XT (XS (XR (Xb [0, 0, 0, 0, 0] A H fun ac w A H => ?_))))))))
  refine Xs (decide (((i : Nat) : Int) < ((x.length : Nat) : Int))) (fun h3 => ?_) fun h3 => ?_
  ·
   have A := A.rb 39 h3
   have h3p : ((i : Nat) : Int) < ((x.length : Nat) : Int) := kp h3
   refine Xb [0, 0, 0] A H fun ac w A H => ?_
   obtain ⟨e2, he2⟩ := SX.get_of_lt (l := x) (i := i) ko
   refine SX.given A (SX.run_idx (P := Tryz.prog) (H.fact' 0 (D.cellsF s1 x) kr) (T := 28) (E := 200) (k := .i64) (i := i) Tryz.underlying28 kr (by rw [SX.SlAt.count D.Cell.len kc (H.fact' 0 (D.cellsF s1 x) kr)]; exact (List.getElem?_eq_some_iff.1 he2).1)) kr kr fun ac A => ?_
   refine SX.given A (SX.run_loadN (P := Tryz.prog) (T := 200) (b := s1.blk) (o := s1.off + i * 2) (D.Cell.cells e2) kr kr (fun k hk => SX.SlAt.elem D.Cell.len (H.fact' 0 (D.cellsF s1 x) kr) he2 hk)) kr kr fun ac A => Xb [0] A H fun ac w A H => Xc A H (find1_calls e2 k w) fun ac w A H => Xb [0, 0, 0, 0] A H fun ac w A H => XD (XT (XW (Xr [0, 0] ((.tuple #[.int .i64 (((i : Nat) : Int)), .bool ((cmpN e2.at_ k) == 0)])) A H ?_)))
   have hi : D.low x k = i := D.low_of x k i ko hI.2.2.1 (fun c hc => hI.2.2.2 i c ko hc)
   have hh := D.has_low hs k
   rw [hi] at hh
   rw [hi, hh]
   rw [he2, cmpN_eq]
  ·
   have A := A.rb 39 h3
   have h3p : ¬ (((i : Nat) : Int) < ((x.length : Nat) : Int)) := kp h3
   refine Xb [0, 0, 0, 0, 0, 0, 0, 0, 0, 0, 0] A H fun ac w A H => XD (XT (XW (Xr [0, 0] ((.tuple #[.int .i64 (((i : Nat) : Int)), .bool false])) A H ?_)))
   have hi : D.low x k = i := D.low_of x k i ko hI.2.2.1 (fun c hc => hI.2.2.2 i c ko hc)
   have hh := D.has_low hs k
   rw [hi] at hh
   rw [hi, hh]
   rw [List.getElem?_eq_none ko]
structure D.MemL where
 size : Nat
 l : List D.Cell
def D.wordN (m : D.Mem) (k : Nat) : Nat := if k < m.size then m.f (k / 8) else 0
theorem find_calls (m : D.MemL) (k : Nat)  {no : List Nat} (s1 : SX.Sl) (w0 : World) (hno : ∀ b ∈ no, b < w0.heap.size) (hs1 : (D.cellsF s1 m.l).P w0 no) (hs : m.l.Pairwise fun a b => a.at_ < b.at_) (hn : m.l.length ≤ 137438953472) (hk : k < 18446744073709551616) : SX.Gives Tryz.prog 164 #[(.agg #[.int .u64 (((m.size : Nat) : Int)), .slice s1.a s1.n s1.c]), .int .u64 (((k : Nat) : Int))] w0 ((.tuple #[.int .i64 (((D.low m.l k : Nat) : Int)), .bool (D.has m.l k)])) := by
 refine SX.enterN (args := [(.agg #[.int .u64 (((m.size : Nat) : Int)), .slice s1.a s1.n s1.c]), .int .u64 (((k : Nat) : Int))]) (hno := hno) 12 Tryz.func164 rfl kr fun ac A H => ?_
 have H := H.known (D.cellsF s1 m.l) hs1
 refine XS (XR (Xb [0, 0, 0] A H fun ac w A H => XD (XT (XS (XR (Xb [0, 0, 0] A H fun ac w A H => Xc A H (bsearch_calls m.l k s1 w H.nos_lt (H.fact' 0 (D.cellsF s1 m.l) kr) (hs) (hn) ko) fun ac w A H => Xb [0, 0, 0, 0] A H fun ac w A H => XD (XT (XW (Xr [0, 0] ((.tuple #[.int .i64 (((D.low m.l k : Nat) : Int)), .bool (D.has m.l k)])) A H ?_)))))))))
 rfl
theorem Word_calls (m : D.Mem) (k : Nat)  {no : List Nat} (s1 : SX.Sl) (w0 : World) (hno : ∀ b ∈ no, b < w0.heap.size) (hs1 : (D.memF s1 m.f).P w0 no) (hk : k < 18446744073709551616) : SX.Gives Tryz.prog 151 #[(D.Mem.enc m s1), .int .u64 (((k : Nat) : Int))] w0 (.int .u64 (((D.wordN m k : Nat) : Int))) := by
 refine SX.enterN (args := [(D.Mem.enc m s1), .int .u64 (((k : Nat) : Int))]) (hno := hno) 28 Tryz.func151 rfl kr fun ac A H => ?_
 have H := H.known (D.memF s1 m.f) hs1
 obtain ⟨l, hl, hms1⟩ := hs1
 have H := H.known (D.cellsF s1 l) hl
 refine XS (XR (Xb [0, 0] A H fun ac w A H => XD (XT (XS (XR (Xb [0, 0, 0] A H fun ac w A H => ?_))))))
 have A := A.re 10 (.int .u64 (IntKind.u64.wrap (Int.tdiv ((k : Nat) : Int) 8))) (.int .u64 ((((k / 8) : Nat) : Int))) kr (SX.u_quo k 8 ko)
 refine Xc A H (find_calls (⟨m.size, l⟩ : D.MemL) (k / 8) s1 w H.nos_lt (H.fact' 0 (D.cellsF s1 l) kr) (hms1.sorted) (hms1.short) ko) fun ac w A H => Xb [0, 0, 0, 0, 0] A H fun ac w A H => XD (XT (XS (XS (XR (Xb [0, 0, 0] A H fun ac w A H => ?_)))))
 refine Xs (!(D.has l (k / 8))) (fun h1 => ?_) fun h1 => ?_
 ·
  have A := A.rb 16 h1
  refine Xb [0, 0, 0, 0, 0] A H fun ac w A H => XD (XT (Xt A (XS (XR (Xb [0] A H fun ac w A H => XD (XT (XW (XU (Xr [0] (.int .u64 0) A H ?_)))))))))
  first | (rw [D.wordN, D.has_rd hms1 (k / 8) (by simpa using h1)]; split <;> rfl) | (rw [D.wordN, if_neg ko] <;> rfl) | (obtain ⟨c, hc, _, hv⟩ := D.low_get hms1 (k / 8) (by simpa using h1); rw [he1] at hc; cases hc; rw [D.wordN, if_pos ko, hv])
 ·
  have A := A.rb 16 h1
  refine Xb [0, 0, 0, 0, 0] A H fun ac w A H => XD (XT ?_)
  refine Xs (decide (((k : Nat) : Int) ≥ ((m.size : Nat) : Int))) (fun h2 => ?_) fun h2 => ?_
  ·
   have A := A.rb 21 h2
   have h2p : k ≥ m.size := kp h2
   refine Xt A (XS (XR (Xb [0] A H fun ac w A H => XD (XT (XW (XU (Xr [0] (.int .u64 0) A H ?_)))))))
   first | (rw [D.wordN, D.has_rd hms1 (k / 8) (by simpa using h1)]; split <;> rfl) | (rw [D.wordN, if_neg ko] <;> rfl) | (obtain ⟨c, hc, _, hv⟩ := D.low_get hms1 (k / 8) (by simpa using h1); rw [he1] at hc; cases hc; rw [D.wordN, if_pos ko, hv])
  ·
   have A := A.rb 21 h2
   have h2p : ¬ (k ≥ m.size) := kp h2
   refine Xf A (XK (XT (XS (XR (Xb [0, 0, 0] A H fun ac w A H => ?_)))))
   obtain ⟨e1, he1⟩ := SX.get_of_lt (l := l) (i := D.low l (k / 8)) (by have := D.low_get hms1 (k / 8) (by simpa using h1); obtain ⟨c, hc, _⟩ := this; exact (List.getElem?_eq_some_iff.1 hc).1)
   refine SX.given A (SX.run_idx (P := Tryz.prog) (H.fact' 0 (D.cellsF s1 l) kr) (T := 28) (E := 200) (k := .i64) (i := D.low l (k / 8)) Tryz.underlying28 kr (by rw [SX.SlAt.count D.Cell.len kc (H.fact' 0 (D.cellsF s1 l) kr)]; exact (List.getElem?_eq_some_iff.1 he1).1)) kr kr fun ac A => ?_
   refine Xb [0] A H fun ac w A H => SX.given A (SX.run_load1 (P := Tryz.prog) (T := 27) (b := s1.blk) (o := s1.off + (D.low l (k / 8)) * 2 + 1) (v := .int .u64 (((e1.val : Nat) : Int))) kr (SX.SlAt.elem (f := D.Cell.cells) D.Cell.len (H.fact' 0 (D.cellsF s1 l) kr) he1 (k := 1) (Nat.lt_of_lt_of_eq (m := 2) kc rfl))) kr kr fun ac A => Xb [0] A H fun ac w A H => XD (XT (XW (Xr [0] (.int .u64 (((e1.val : Nat) : Int))) A H ?_)))
   first | (rw [D.wordN, D.has_rd hms1 (k / 8) (by simpa using h1)]; split <;> rfl) | (rw [D.wordN, if_neg ko] <;> rfl) | (obtain ⟨c, hc, _, hv⟩ := D.low_get hms1 (k / 8) (by simpa using h1); rw [he1] at hc; cases hc; rw [D.wordN, if_pos ko, hv])
end Go.Proofs.YtfkmcdkncmapmaaGreatDoor
