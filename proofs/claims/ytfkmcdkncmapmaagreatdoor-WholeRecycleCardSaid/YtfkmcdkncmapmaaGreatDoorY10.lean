/- Walks of functions, written by the session's own program wip/sx/sxgen.py; Lean checks them. -/
import Derived.Test.YtfkmcdkncmapmaaGreatDoorY02
import Derived.Test.YtfkmcdkncmapmaaGreatDoorY09
import Derived.Test.YtfkmcdkncmapmaaGreatDoorProg
set_option linter.unusedVariables false
set_option linter.unusedSimpArgs false
set_option maxRecDepth 100000
set_option maxHeartbeats 1000000
namespace Go.Proofs.YtfkmcdkncmapmaaGreatDoor
open Go Go.RowKit
theorem aTake_calls (x : D.Asids)  (w0 : World) (hL : Ld w0) (ha : x.Ok) : SX.Gives Tryz.prog 34 #[(D.Asids.enc x)] w0 ((.tuple #[(D.Asids.enc x.take), .int .u64 (((if x.free = 0 then 0 else ctz x.free + 1 : Nat) : Int)), .bool (if x.free = 0 then false else D.bitB x.owned (ctz x.free)), .int .i64 (if x.free = 0 then (9 : Int) else 0)])) := by
 have ha1 := ha.many
 have ha2 := ha.free
 have ha3 := ha.owned
 have hc : x.free ≠ 0 → ctz x.free < 64 := ctz_pos x.free ha2
 refine SX.enter (args := [(D.Asids.enc x)]) 39 Tryz.func34 rfl kr fun ac A H => XS (XR (Xb [0, 0, 0, 0, 0] A H fun ac w A H => XD (XT (XS (XS (XR (Xb [0, 0, 0, 0, 0, 0] A H fun ac w A H => SX.given A (SX.run_semEq (P := Tryz.prog) _ 41 (.tmp 8) (.tmp 13) #[.int .i64 (x.many), .int .u64 (((x.free : Nat) : Int)), .int .u64 (((x.owned : Nat) : Int))] #[.int .i64 (x.many), .int .u64 0, .int .u64 (((x.owned : Nat) : Int))] ((x.many == x.many && (((x.free : Nat) : Int) == 0 && (((x.owned : Nat) : Int) == ((x.owned : Nat) : Int) && true)))) kr (SX.eqA Tryz.underlying41 kr (SX.eqf kr kr ⟨.int .i64 (x.many), by kernel_rfl⟩ ⟨.int .i64 (x.many), by kernel_rfl⟩ (SX.eqf kr kr ⟨.int .u64 (((x.free : Nat) : Int)), by kernel_rfl⟩ ⟨.int .u64 0, by kernel_rfl⟩ (SX.eqf kr kr ⟨.int .u64 (((x.owned : Nat) : Int)), by kernel_rfl⟩ ⟨.int .u64 (((x.owned : Nat) : Int)), by kernel_rfl⟩ SX.eqf_nil))))) kr kr fun ac A => ?_)))))))
 have A := A.re 14 (.bool ((x.many == x.many && (((x.free : Nat) : Int) == 0 && (((x.owned : Nat) : Int) == ((x.owned : Nat) : Int) && true))))) (.bool (decide (x.free = 0))) kr (by congr 1; rw [Bool.eq_iff_iff]; simp <;> omega)
 refine XD (XT ?_)
 refine Xs (decide (x.free = 0)) (fun h1 => ?_) fun h1 => ?_
 ·
  have A := A.rb 14 h1
  refine Xt A (XS (XR (Xb [0, 1, 0, 0, 0] A H fun ac w A H => XD (XT (XW (XU (Xr [1, 0, 0, 0] ((.tuple #[(D.Asids.enc x), .int .u64 0, .bool false, .int .i64 9])) A H ?_)))))))
  have h1q := h1; simp at h1q; simp [D.Asids.take, h1q, D.Asids.enc]
  try exact bitB_raw x.owned (ctz x.free)
 ·
  have A := A.rb 14 h1
  refine Xf A (XK (XT (XS (XR (Xb [0, 0] A H fun ac w A H => Xc A H (tz_calls x.free w (hL.below H.below) ko) fun ac w A H => Xb [0] A H fun ac w A H => XD (XT (XS (XR (Xb [0, 0, 0] A H fun ac w A H => Xc A H (Get_calls x.owned (ctz x.free) 1 w ko (by have := hc (by simpa using h1); omega) ko) fun ac w A H => Xb [0, 0] A H fun ac w A H => XD (XT (XS (SX.drawn 9 [0] kr A H fun w H => SX.takes [0] [(0, none), (1, some 0), (2, none), (4, none), (5, some 0), (6, none)] A H kr kd kr kr kr (Or.inl kr) fun ac A => SX.callGD 3 [0] A H (Set_calls x.free (ctz x.free) 1 0 w ko (by have := hc (by simpa using h1); omega) ko) kr kr kr kr (Or.inl kr) fun ac w A H => SX.takes [0] [(8, none)] A H kr kd kr kr kr (Or.inl kr) fun ac A => SX.callGD 7 [0] A H (Set_calls x.owned (ctz x.free) 1 1 w ko (by have := hc (by simpa using h1); omega) ko) kr kr kr kr (Or.inl kr) fun ac w A H => SX.act 9 0 [0] A H kr kr kr (Or.inr kr) fun ac w A H => SX.takes [0] [(10, none)] A H kr kd kr kr kr (Or.inr kr) fun ac A => SX.act 11 0 [0] A H kr kr kr (Or.inr kr) fun ac w A H => ?_))))))))))))
  refine SX.doneD kr ?_ _
  refine XT (XS (XR (Xb [0, 0, 0] A H fun ac w A H => ?_)))
  have A := A.re 36 (.int .i64 (IntKind.i64.wrap (((ctz x.free : Nat) : Int) + 1))) (.int .i64 ((((ctz x.free + 1) : Nat) : Int))) kr (SX.i_in _ ko (by have := hc (by simpa using h1); omega))
  refine Xb [0] A H fun ac w A H => ?_
  have A := A.re 37 (.int .u64 (IntKind.u64.wrap ((((ctz x.free + 1) : Nat) : Int)))) (.int .u64 ((((ctz x.free + 1) : Nat) : Int))) kr (SX.u_in _ (by have := hc (by simpa using h1); omega))
  refine Xb [0, 1, 0, 0, 0] A H fun ac w A H => XD (XT (XW (Xr [1, 0, 0, 0] ((.tuple #[(D.Asids.enc (⟨x.many, Bits.setN x.free (ctz x.free) 1 0, Bits.setN x.owned (ctz x.free) 1 1⟩ : D.Asids)), .int .u64 ((((ctz x.free + 1) : Nat) : Int)), .bool (((Bits.getN x.owned (ctz x.free) 1 : Nat) : Int) == 1), .int .i64 0])) A H ?_)))
  have h1q := h1; simp at h1q; simp [D.Asids.take, h1q, D.Asids.enc]
  try exact bitB_raw x.owned (ctz x.free)
theorem offsetN_lt (x : Nat) (l : Int) : offsetN x l < sizeN l := by
 unfold offsetN
 have h : 0 < sizeN l := by unfold sizeN; split <;> (try split) <;> omega
 exact Nat.lt_of_le_of_lt Nat.and_le_right ko
theorem sizeN_le (l : Int) : sizeN l ≤ 1073741824 := by unfold sizeN; split <;> (try split) <;> omega
def causeN (s k : Int) : Int := if s = 0 then (if k = 0 then 0 else if k = 1 then 4 else 6) else if s = 1 then (if k = 0 then 1 else if k = 1 then 5 else 7) else (if k = 0 then 12 else if k = 1 then 13 else 15)
namespace D
def Perm.reaches (p : Perm) (y : Way) : Bool := if decide (y.priv = 0) || !p.u then decide (y.priv = 0) == p.u else decide (y.kind ≠ 0) && y.sum
def Perm.allows (p : Perm) (y : Way) : Bool := p.reaches y && (if y.kind = 0 then p.x else if y.kind = 1 then p.r || (p.x && y.mxr) else p.w)
def Entry.covers (e : Entry) (x : Nat) : Bool := e.valid && decide (numberN (baseN x e.level) = e.vpn)
def Entry.hits (e : Entry) (asid x : Nat) : Bool := e.covers x && (e.global || decide (e.asid = asid))
def Entry.same (e f : Entry) : Bool := if !e.valid || !f.valid || decide (e.level ≠ f.level) || decide (e.vpn ≠ f.vpn) then false else e.global || f.global || decide (e.asid = f.asid)
def Entry.of (l : Leaf) (x asid : Nat) : Entry := ⟨true, asid, l.pte.g, l.level, numberN (baseN x l.level), l.pte.ppn, l.pte.perm, l.pte.d⟩
end D
theorem of_calls (s : Int) (k : Int) (x : Nat)  (w0 : World) (hL : Ld w0) (hs : s = 0 ∨ s = 1 ∨ s = 2) (hk : k = 0 ∨ k = 1 ∨ k = 2) : SX.Gives Tryz.prog 206 #[.int .i64 s, .int .i64 k, .int .u64 (((x : Nat) : Int))] w0 ((D.Fault.enc (⟨true, causeN s k, x⟩ : D.Fault))) := by
 rcases hs with rfl | rfl | rfl <;> rcases hk with rfl | rfl | rfl
 ·
  refine SX.enter (args := [.int .i64 0, .int .i64 0, .int .u64 (((x : Nat) : Int))]) 14 Tryz.func206 rfl kr fun ac A H => ?_
  obtain ⟨Tcauses, fcauses, hTcauses⟩ := hL.causes
  have H := H.fb_old hTcauses
  refine XS (XR (Xb [0] A H fun ac w A H => XD (XT (XS (XR (Xb [0, 0, 0, 0, 1000, 0, 0, 0] A H fun ac w A H => XD (XT (XW (Xr [0] ((D.Fault.enc (⟨true, 0, x⟩ : D.Fault))) A H ?_)))))))))
  rfl
 ·
  refine SX.enter (args := [.int .i64 0, .int .i64 1, .int .u64 (((x : Nat) : Int))]) 14 Tryz.func206 rfl kr fun ac A H => ?_
  obtain ⟨Tcauses, fcauses, hTcauses⟩ := hL.causes
  have H := H.fb_old hTcauses
  refine XS (XR (Xb [0] A H fun ac w A H => XD (XT (XS (XR (Xb [0, 0, 0, 0, 1000, 0, 0, 0] A H fun ac w A H => XD (XT (XW (Xr [0] ((D.Fault.enc (⟨true, 4, x⟩ : D.Fault))) A H ?_)))))))))
  rfl
 ·
  refine SX.enter (args := [.int .i64 0, .int .i64 2, .int .u64 (((x : Nat) : Int))]) 14 Tryz.func206 rfl kr fun ac A H => ?_
  obtain ⟨Tcauses, fcauses, hTcauses⟩ := hL.causes
  have H := H.fb_old hTcauses
  refine XS (XR (Xb [0] A H fun ac w A H => XD (XT (XS (XR (Xb [0, 0, 0, 0, 1000, 0, 0, 0] A H fun ac w A H => XD (XT (XW (Xr [0] ((D.Fault.enc (⟨true, 6, x⟩ : D.Fault))) A H ?_)))))))))
  rfl
 ·
  refine SX.enter (args := [.int .i64 1, .int .i64 0, .int .u64 (((x : Nat) : Int))]) 14 Tryz.func206 rfl kr fun ac A H => ?_
  obtain ⟨Tcauses, fcauses, hTcauses⟩ := hL.causes
  have H := H.fb_old hTcauses
  refine XS (XR (Xb [0] A H fun ac w A H => XD (XT (XS (XR (Xb [0, 0, 0, 0, 1000, 0, 0, 0] A H fun ac w A H => XD (XT (XW (Xr [0] ((D.Fault.enc (⟨true, 1, x⟩ : D.Fault))) A H ?_)))))))))
  rfl
 ·
  refine SX.enter (args := [.int .i64 1, .int .i64 1, .int .u64 (((x : Nat) : Int))]) 14 Tryz.func206 rfl kr fun ac A H => ?_
  obtain ⟨Tcauses, fcauses, hTcauses⟩ := hL.causes
  have H := H.fb_old hTcauses
  refine XS (XR (Xb [0] A H fun ac w A H => XD (XT (XS (XR (Xb [0, 0, 0, 0, 1000, 0, 0, 0] A H fun ac w A H => XD (XT (XW (Xr [0] ((D.Fault.enc (⟨true, 5, x⟩ : D.Fault))) A H ?_)))))))))
  rfl
 ·
  refine SX.enter (args := [.int .i64 1, .int .i64 2, .int .u64 (((x : Nat) : Int))]) 14 Tryz.func206 rfl kr fun ac A H => ?_
  obtain ⟨Tcauses, fcauses, hTcauses⟩ := hL.causes
  have H := H.fb_old hTcauses
  refine XS (XR (Xb [0] A H fun ac w A H => XD (XT (XS (XR (Xb [0, 0, 0, 0, 1000, 0, 0, 0] A H fun ac w A H => XD (XT (XW (Xr [0] ((D.Fault.enc (⟨true, 7, x⟩ : D.Fault))) A H ?_)))))))))
  rfl
 ·
  refine SX.enter (args := [.int .i64 2, .int .i64 0, .int .u64 (((x : Nat) : Int))]) 14 Tryz.func206 rfl kr fun ac A H => ?_
  obtain ⟨Tcauses, fcauses, hTcauses⟩ := hL.causes
  have H := H.fb_old hTcauses
  refine XS (XR (Xb [0] A H fun ac w A H => XD (XT (XS (XR (Xb [0, 0, 0, 0, 1000, 0, 0, 0] A H fun ac w A H => XD (XT (XW (Xr [0] ((D.Fault.enc (⟨true, 12, x⟩ : D.Fault))) A H ?_)))))))))
  rfl
 ·
  refine SX.enter (args := [.int .i64 2, .int .i64 1, .int .u64 (((x : Nat) : Int))]) 14 Tryz.func206 rfl kr fun ac A H => ?_
  obtain ⟨Tcauses, fcauses, hTcauses⟩ := hL.causes
  have H := H.fb_old hTcauses
  refine XS (XR (Xb [0] A H fun ac w A H => XD (XT (XS (XR (Xb [0, 0, 0, 0, 1000, 0, 0, 0] A H fun ac w A H => XD (XT (XW (Xr [0] ((D.Fault.enc (⟨true, 13, x⟩ : D.Fault))) A H ?_)))))))))
  rfl
 ·
  refine SX.enter (args := [.int .i64 2, .int .i64 2, .int .u64 (((x : Nat) : Int))]) 14 Tryz.func206 rfl kr fun ac A H => ?_
  obtain ⟨Tcauses, fcauses, hTcauses⟩ := hL.causes
  have H := H.fb_old hTcauses
  refine XS (XR (Xb [0] A H fun ac w A H => XD (XT (XS (XR (Xb [0, 0, 0, 0, 1000, 0, 0, 0] A H fun ac w A H => XD (XT (XW (Xr [0] ((D.Fault.enc (⟨true, 15, x⟩ : D.Fault))) A H ?_)))))))))
  rfl
theorem Odd_calls (k : Int) (x : Nat)  (w0 : World) (hL : Ld w0) (hk : k = 0 ∨ k = 1 ∨ k = 2) : SX.Gives Tryz.prog 179 #[.int .i64 k, .int .u64 (((x : Nat) : Int))] w0 ((D.Fault.enc (⟨true, causeN 0 k, x⟩ : D.Fault))) := by
 refine SX.enter (args := [.int .i64 k, .int .u64 (((x : Nat) : Int))]) 8 Tryz.func179 rfl kr fun ac A H => XS (XR (Xb [0] A H fun ac w A H => XD (XT (XS (XR (Xb [0, 0] A H fun ac w A H => Xc A H (of_calls 0 k x w (hL.below H.below) ko (hk)) fun ac w A H => Xb [0] A H fun ac w A H => XD (XT (XW (Xr [0] ((D.Fault.enc (⟨true, causeN 0 k, x⟩ : D.Fault))) A H ?_)))))))))
 rfl
theorem Access_calls (k : Int) (x : Nat)  (w0 : World) (hL : Ld w0) (hk : k = 0 ∨ k = 1 ∨ k = 2) : SX.Gives Tryz.prog 215 #[.int .i64 k, .int .u64 (((x : Nat) : Int))] w0 ((D.Fault.enc (⟨true, causeN 1 k, x⟩ : D.Fault))) := by
 refine SX.enter (args := [.int .i64 k, .int .u64 (((x : Nat) : Int))]) 8 Tryz.func215 rfl kr fun ac A H => XS (XR (Xb [0] A H fun ac w A H => XD (XT (XS (XR (Xb [0, 0] A H fun ac w A H => Xc A H (of_calls 1 k x w (hL.below H.below) ko (hk)) fun ac w A H => Xb [0] A H fun ac w A H => XD (XT (XW (Xr [0] ((D.Fault.enc (⟨true, causeN 1 k, x⟩ : D.Fault))) A H ?_)))))))))
 rfl
theorem Page_calls (k : Int) (x : Nat)  (w0 : World) (hL : Ld w0) (hk : k = 0 ∨ k = 1 ∨ k = 2) : SX.Gives Tryz.prog 207 #[.int .i64 k, .int .u64 (((x : Nat) : Int))] w0 ((D.Fault.enc (⟨true, causeN 2 k, x⟩ : D.Fault))) := by
 refine SX.enter (args := [.int .i64 k, .int .u64 (((x : Nat) : Int))]) 8 Tryz.func207 rfl kr fun ac A H => XS (XR (Xb [0] A H fun ac w A H => XD (XT (XS (XR (Xb [0, 0] A H fun ac w A H => Xc A H (of_calls 2 k x w (hL.below H.below) ko (hk)) fun ac w A H => Xb [0] A H fun ac w A H => XD (XT (XW (Xr [0] ((D.Fault.enc (⟨true, causeN 2 k, x⟩ : D.Fault))) A H ?_)))))))))
 rfl
theorem reaches_calls (p : D.Perm) (y : D.Way)  (w0 : World) : SX.Gives Tryz.prog 240 #[(D.Perm.enc p), (D.Way.enc y)] w0 (.bool (p.reaches y)) := by
 refine SX.enter (args := [(D.Perm.enc p), (D.Way.enc y)]) 26 Tryz.func240 rfl kr fun ac A H => XS (XR (Xb [0, 0, 0] A H fun ac w A H => XD (XT (XS (XS (XR (Xb [0, 1, 0, 0] A H fun ac w A H => ?_)))))))
 refine Xs (y.priv == 0) (fun h1 => ?_) fun h1 => ?_
 ·
  have A := A.rb 8 h1
  have h1p : y.priv = 0 := kp h1
  refine Xb [0, 0, 0, 0] A H fun ac w A H => XD (XT (Xt A (XS (XR (Xb [0, 1, 0, 0, 0, 0, 0] A H fun ac w A H => XD (XT (XW (XU (Xr [0] (.bool ((y.priv == 0) == p.u)) A H (congrArg Value.bool ?_))))))))))
  first | (simp [D.Perm.reaches, h1, h1p]; done) | (rw [Bool.eq_iff_iff]; simp [D.Perm.reaches, h1, h1p]; done) | (rw [Bool.eq_iff_iff]; simp [D.Perm.reaches, h1, h1p]; omega)
 ·
  have A := A.rb 8 h1
  have h1p : ¬ (y.priv = 0) := kp h1
  refine Xb [0, 0, 0, 0] A H fun ac w A H => XD (XT ?_)
  refine Xs (p.u) (fun h2 => ?_) fun h2 => ?_
  ·
   have A := A.re 12 (.bool (!p.u)) (.bool false) kr (by rw [h2]; rfl)
   refine Xf A (XK (XT (XS (XR (Xb [0, 1, 0, 0] A H fun ac w A H => ?_)))))
   refine Xs (y.kind != 0) (fun h3 => ?_) fun h3 => ?_
   ·
    have A := A.rb 22 h3
    have h3p : y.kind ≠ 0 := kp h3
    refine Xb [0, 1, 0, 0] A H fun ac w A H => XD (XT (XW (Xr [0] (.bool y.sum) A H (congrArg Value.bool ?_))))
    first | (simp [D.Perm.reaches, h1, h2, h3, h1p, h3p]; done) | (rw [Bool.eq_iff_iff]; simp [D.Perm.reaches, h1, h2, h3, h1p, h3p]; done) | (rw [Bool.eq_iff_iff]; simp [D.Perm.reaches, h1, h2, h3, h1p, h3p]; omega)
   ·
    have A := A.rb 22 h3
    have h3p : ¬ (y.kind ≠ 0) := kp h3
    refine Xb [0, 0, 0, 0] A H fun ac w A H => XD (XT (XW (Xr [0] (.bool false) A H (congrArg Value.bool ?_))))
    first | (simp [D.Perm.reaches, h1, h2, h3, h1p, h3p]; done) | (rw [Bool.eq_iff_iff]; simp [D.Perm.reaches, h1, h2, h3, h1p, h3p]; done) | (rw [Bool.eq_iff_iff]; simp [D.Perm.reaches, h1, h2, h3, h1p, h3p]; omega)
  ·
   have A := A.re 12 (.bool (!p.u)) (.bool true) kr (by rw [h2]; rfl)
   refine Xt A (XS (XR (Xb [0, 1, 0, 0, 0, 0, 0] A H fun ac w A H => XD (XT (XW (XU (Xr [0] (.bool ((y.priv == 0) == p.u)) A H (congrArg Value.bool ?_))))))))
   first | (simp [D.Perm.reaches, h1, h2, h1p]; done) | (rw [Bool.eq_iff_iff]; simp [D.Perm.reaches, h1, h2, h1p]; done) | (rw [Bool.eq_iff_iff]; simp [D.Perm.reaches, h1, h2, h1p]; omega)
theorem asks1_calls (p : D.Perm) (y : D.Way)  (w0 : World) : SX.Gives Tryz.prog 266 #[(D.Perm.enc p), (D.Way.enc y)] w0 (.bool p.x) := by
 refine SX.enter (args := [(D.Perm.enc p), (D.Way.enc y)]) 7 Tryz.func266 rfl kr fun ac A H => XS (XR (Xb [0, 0, 0] A H fun ac w A H => XD (XT (XS (XR (Xb [0, 0, 0] A H fun ac w A H => XD (XT (XW (Xr [0] (.bool p.x) A H ?_)))))))))
 rfl
theorem asks2_calls (p : D.Perm) (y : D.Way)  (w0 : World) : SX.Gives Tryz.prog 267 #[(D.Perm.enc p), (D.Way.enc y)] w0 (.bool (p.r || (p.x && y.mxr))) := by
 refine SX.enter (args := [(D.Perm.enc p), (D.Way.enc y)]) 15 Tryz.func267 rfl kr fun ac A H => XS (XR (Xb [0, 0, 0] A H fun ac w A H => XD (XT (XS (XR (Xb [0, 0, 0] A H fun ac w A H => ?_))))))
 refine Xs (p.r) (fun h1 => ?_) fun h1 => ?_
 ·
  have A := A.rb 7 h1
  refine Xb [0, 0, 0, 0, 0, 0, 0, 0] A H fun ac w A H => XD (XT (XW (Xr [0] (.bool true) A H (congrArg Value.bool ?_))))
  first | (simp [h1]; done) | (rw [Bool.eq_iff_iff]; simp [h1]; done) | (rw [Bool.eq_iff_iff]; simp [h1]; omega)
 ·
  have A := A.rb 7 h1
  refine Xb [0, 0, 0] A H fun ac w A H => ?_
  refine Xs (p.x) (fun h2 => ?_) fun h2 => ?_
  ·
   have A := A.rb 10 h2
   refine Xb [0, 1, 0, 0, 0] A H fun ac w A H => XD (XT (XW (Xr [0] (.bool y.mxr) A H (congrArg Value.bool ?_))))
   first | (simp [h1, h2]; done) | (rw [Bool.eq_iff_iff]; simp [h1, h2]; done) | (rw [Bool.eq_iff_iff]; simp [h1, h2]; omega)
  ·
   have A := A.rb 10 h2
   refine Xb [0, 0, 0, 0, 0] A H fun ac w A H => XD (XT (XW (Xr [0] (.bool false) A H (congrArg Value.bool ?_))))
   first | (simp [h1, h2]; done) | (rw [Bool.eq_iff_iff]; simp [h1, h2]; done) | (rw [Bool.eq_iff_iff]; simp [h1, h2]; omega)
theorem asks3_calls (p : D.Perm) (y : D.Way)  (w0 : World) : SX.Gives Tryz.prog 268 #[(D.Perm.enc p), (D.Way.enc y)] w0 (.bool p.w) := by
 refine SX.enter (args := [(D.Perm.enc p), (D.Way.enc y)]) 7 Tryz.func268 rfl kr fun ac A H => XS (XR (Xb [0, 0, 0] A H fun ac w A H => XD (XT (XS (XR (Xb [0, 0, 0] A H fun ac w A H => XD (XT (XW (Xr [0] (.bool p.w) A H ?_)))))))))
 rfl
theorem Allows_calls (p : D.Perm) (y : D.Way)  (w0 : World) (hL : Ld w0) (hk : y.kind = 0 ∨ y.kind = 1 ∨ y.kind = 2) : SX.Gives Tryz.prog 229 #[(D.Perm.enc p), (D.Way.enc y)] w0 (.bool (p.allows y)) := by
 obtain ⟨k, pr, su, mx⟩ := y; simp only at hk; rcases hk with rfl | rfl | rfl
 ·
  refine SX.enter (args := [(D.Perm.enc p), (D.Way.enc (⟨0, pr, su, mx⟩ : D.Way))]) 17 Tryz.func229 rfl kr fun ac A H => ?_
  obtain ⟨Tperms, fperms, hTperms⟩ := hL.perms
  have H := H.fb_old hTperms
  refine XS (XR (Xb [0, 0, 0] A H fun ac w A H => XD (XT (XS (SX.drawn 13 [0, 1] kr A H fun w H => SX.takes [0, 1] [(0, some 0), (1, some 1)] A H kr kd kr kr kr (Or.inl kr) fun ac A => SX.callGD 2 [0, 1] A H (reaches_calls p (⟨0, pr, su, mx⟩ : D.Way) w) kr kr kr kr (Or.inl kr) fun ac w A H => SX.takes [0, 1] [(3, none)] A H kr kd kr kr kr (Or.inl kr) fun ac A => ?_)))))
  refine Xs (p.reaches (⟨0, pr, su, mx⟩ : D.Way)) (fun h1 => ?_) fun h1 => ?_
  ·
   have A := A.rb 8 h1
   refine SX.takes [0, 1] [(4, none), (5, some 1), (6, none), (7, some 1000), (8, some 0), (9, some 1)] A H kr kd kr kr kr (Or.inl kr) fun ac A => SX.callGD 10 [0, 1] A H (asks1_calls p (⟨0, pr, su, mx⟩ : D.Way) w) kr kr kr kr (Or.inl kr) fun ac w A H => SX.takes [0, 1] [(11, none), (12, none)] A H kr kd kr kr kr (Or.inl kr) fun ac A => ?_
   refine SX.doneD kr ?_ _
   refine XT (XW (Xr [0] (.bool p.x) A H (congrArg Value.bool ?_)))
   first | (simp [D.Perm.allows, h1]; done) | (rw [Bool.eq_iff_iff]; simp [D.Perm.allows, h1]; done) | (rw [Bool.eq_iff_iff]; simp [D.Perm.allows, h1]; omega)
  ·
   have A := A.rb 8 h1
   refine SX.takes [0, 1] [(4, none), (5, none), (6, none), (7, none), (8, none), (9, none), (10, none), (11, none), (12, none)] A H kr kd kr kr kr (Or.inl kr) fun ac A => ?_
   refine SX.doneD kr ?_ _
   refine XT (XW (Xr [0] (.bool false) A H (congrArg Value.bool ?_)))
   first | (simp [D.Perm.allows, h1]; done) | (rw [Bool.eq_iff_iff]; simp [D.Perm.allows, h1]; done) | (rw [Bool.eq_iff_iff]; simp [D.Perm.allows, h1]; omega)
 ·
  refine SX.enter (args := [(D.Perm.enc p), (D.Way.enc (⟨1, pr, su, mx⟩ : D.Way))]) 17 Tryz.func229 rfl kr fun ac A H => ?_
  obtain ⟨Tperms, fperms, hTperms⟩ := hL.perms
  have H := H.fb_old hTperms
  refine XS (XR (Xb [0, 0, 0] A H fun ac w A H => XD (XT (XS (SX.drawn 13 [0, 1] kr A H fun w H => SX.takes [0, 1] [(0, some 0), (1, some 1)] A H kr kd kr kr kr (Or.inl kr) fun ac A => SX.callGD 2 [0, 1] A H (reaches_calls p (⟨1, pr, su, mx⟩ : D.Way) w) kr kr kr kr (Or.inl kr) fun ac w A H => SX.takes [0, 1] [(3, none)] A H kr kd kr kr kr (Or.inl kr) fun ac A => ?_)))))
  refine Xs (p.reaches (⟨1, pr, su, mx⟩ : D.Way)) (fun h2 => ?_) fun h2 => ?_
  ·
   have A := A.rb 8 h2
   refine SX.takes [0, 1] [(4, none), (5, some 1), (6, none), (7, some 1000), (8, some 0), (9, some 1)] A H kr kd kr kr kr (Or.inl kr) fun ac A => SX.callGD 10 [0, 1] A H (asks2_calls p (⟨1, pr, su, mx⟩ : D.Way) w) kr kr kr kr (Or.inl kr) fun ac w A H => SX.takes [0, 1] [(11, none), (12, none)] A H kr kd kr kr kr (Or.inl kr) fun ac A => ?_
   refine SX.doneD kr ?_ _
   refine XT (XW (Xr [0] (.bool (p.r || (p.x && (⟨1, pr, su, mx⟩ : D.Way).mxr))) A H (congrArg Value.bool ?_)))
   first | (simp [D.Perm.allows, h2]; done) | (rw [Bool.eq_iff_iff]; simp [D.Perm.allows, h2]; done) | (rw [Bool.eq_iff_iff]; simp [D.Perm.allows, h2]; omega)
  ·
   have A := A.rb 8 h2
   refine SX.takes [0, 1] [(4, none), (5, none), (6, none), (7, none), (8, none), (9, none), (10, none), (11, none), (12, none)] A H kr kd kr kr kr (Or.inl kr) fun ac A => ?_
   refine SX.doneD kr ?_ _
   refine XT (XW (Xr [0] (.bool false) A H (congrArg Value.bool ?_)))
   first | (simp [D.Perm.allows, h2]; done) | (rw [Bool.eq_iff_iff]; simp [D.Perm.allows, h2]; done) | (rw [Bool.eq_iff_iff]; simp [D.Perm.allows, h2]; omega)
 ·
  refine SX.enter (args := [(D.Perm.enc p), (D.Way.enc (⟨2, pr, su, mx⟩ : D.Way))]) 17 Tryz.func229 rfl kr fun ac A H => ?_
  obtain ⟨Tperms, fperms, hTperms⟩ := hL.perms
  have H := H.fb_old hTperms
  refine XS (XR (Xb [0, 0, 0] A H fun ac w A H => XD (XT (XS (SX.drawn 13 [0, 1] kr A H fun w H => SX.takes [0, 1] [(0, some 0), (1, some 1)] A H kr kd kr kr kr (Or.inl kr) fun ac A => SX.callGD 2 [0, 1] A H (reaches_calls p (⟨2, pr, su, mx⟩ : D.Way) w) kr kr kr kr (Or.inl kr) fun ac w A H => SX.takes [0, 1] [(3, none)] A H kr kd kr kr kr (Or.inl kr) fun ac A => ?_)))))
  refine Xs (p.reaches (⟨2, pr, su, mx⟩ : D.Way)) (fun h3 => ?_) fun h3 => ?_
  ·
   have A := A.rb 8 h3
   refine SX.takes [0, 1] [(4, none), (5, some 1), (6, none), (7, some 1000), (8, some 0), (9, some 1)] A H kr kd kr kr kr (Or.inl kr) fun ac A => SX.callGD 10 [0, 1] A H (asks3_calls p (⟨2, pr, su, mx⟩ : D.Way) w) kr kr kr kr (Or.inl kr) fun ac w A H => SX.takes [0, 1] [(11, none), (12, none)] A H kr kd kr kr kr (Or.inl kr) fun ac A => ?_
   refine SX.doneD kr ?_ _
   refine XT (XW (Xr [0] (.bool p.w) A H (congrArg Value.bool ?_)))
   first | (simp [D.Perm.allows, h3]; done) | (rw [Bool.eq_iff_iff]; simp [D.Perm.allows, h3]; done) | (rw [Bool.eq_iff_iff]; simp [D.Perm.allows, h3]; omega)
  ·
   have A := A.rb 8 h3
   refine SX.takes [0, 1] [(4, none), (5, none), (6, none), (7, none), (8, none), (9, none), (10, none), (11, none), (12, none)] A H kr kd kr kr kr (Or.inl kr) fun ac A => ?_
   refine SX.doneD kr ?_ _
   refine XT (XW (Xr [0] (.bool false) A H (congrArg Value.bool ?_)))
   first | (simp [D.Perm.allows, h3]; done) | (rw [Bool.eq_iff_iff]; simp [D.Perm.allows, h3]; done) | (rw [Bool.eq_iff_iff]; simp [D.Perm.allows, h3]; omega)
theorem ePhys_calls (e : D.Entry) (x : Nat)  (w0 : World) (hL : Ld w0) (hx : x < 18446744073709551616) (hp : e.ppn < 17592186044416) (hl : e.level = 0 ∨ e.level = 1 ∨ e.level = 2) : SX.Gives Tryz.prog 211 #[(D.Entry.enc e), .int .u64 (((x : Nat) : Int))] w0 (.int .u64 (((e.ppn * 4096 + offsetN x e.level : Nat) : Int))) := by
 have ho1 := offsetN_lt x e.level
 have ho2 := sizeN_le e.level
 refine SX.enter (args := [(D.Entry.enc e), .int .u64 (((x : Nat) : Int))]) 13 Tryz.func211 rfl kr fun ac A H => XS (XR (Xb [0, 0] A H fun ac w A H => XD (XT (XS (SX.drawn 9 [0] kr A H fun w H => SX.takes [0] [(0, none), (1, some 0), (2, none)] A H kr kd kr kr kr (Or.inl kr) fun ac A => ?_)))))
 have A := A.re 7 (.int .u64 (IntKind.u64.wrap (((e.ppn : Nat) : Int) * 4096))) (.int .u64 ((((e.ppn * 4096) : Nat) : Int))) kr (SX.u_mul e.ppn 4096 ko)
 refine SX.takes [0] [(3, none), (4, none), (5, some 0)] A H kr kd kr kr kr (Or.inl kr) fun ac A => SX.callGD 6 [0] A H (Offset_calls x e.level w (hL.below H.below) ko (hl)) kr kr kr kr (Or.inl kr) fun ac w A H => SX.takes [0] [(7, none)] A H kr kd kr kr kr (Or.inl kr) fun ac A => ?_
 have A := A.re 12 (.int .u64 (IntKind.u64.wrap ((((e.ppn * 4096) : Nat) : Int) + ((offsetN x e.level : Nat) : Int)))) (.int .u64 (((((e.ppn * 4096) + offsetN x e.level) : Nat) : Int))) kr (SX.u_add (e.ppn * 4096) (offsetN x e.level) ko)
 refine SX.takes [0] [(8, none)] A H kr kd kr kr kr (Or.inl kr) fun ac A => ?_
 refine SX.doneD kr ?_ _
 refine XT (XW (Xr [0] (.int .u64 (((((e.ppn * 4096) + offsetN x e.level) : Nat) : Int))) A H ?_))
 rfl
theorem lPhys_calls (l : D.Leaf) (x : Nat)  (w0 : World) (hL : Ld w0) (hx : x < 18446744073709551616) (hp : l.pte.ppn < 17592186044416) (hl : l.level = 0 ∨ l.level = 1 ∨ l.level = 2) : SX.Gives Tryz.prog 214 #[(D.Leaf.enc l), .int .u64 (((x : Nat) : Int))] w0 (.int .u64 (((l.pte.ppn * 4096 + offsetN x l.level : Nat) : Int))) := by
 have ho1 := offsetN_lt x l.level
 have ho2 := sizeN_le l.level
 refine SX.enter (args := [(D.Leaf.enc l), .int .u64 (((x : Nat) : Int))]) 14 Tryz.func214 rfl kr fun ac A H => XS (XR (Xb [0, 0] A H fun ac w A H => XD (XT (XS (SX.drawn 10 [0] kr A H fun w H => SX.takes [0] [(0, none), (1, none), (2, some 0), (3, none)] A H kr kd kr kr kr (Or.inl kr) fun ac A => ?_)))))
 have A := A.re 8 (.int .u64 (IntKind.u64.wrap (((l.pte.ppn : Nat) : Int) * 4096))) (.int .u64 ((((l.pte.ppn * 4096) : Nat) : Int))) kr (SX.u_mul l.pte.ppn 4096 ko)
 refine SX.takes [0] [(4, none), (5, none), (6, some 0)] A H kr kd kr kr kr (Or.inl kr) fun ac A => SX.callGD 7 [0] A H (Offset_calls x l.level w (hL.below H.below) ko (hl)) kr kr kr kr (Or.inl kr) fun ac w A H => SX.takes [0] [(8, none)] A H kr kd kr kr kr (Or.inl kr) fun ac A => ?_
 have A := A.re 13 (.int .u64 (IntKind.u64.wrap ((((l.pte.ppn * 4096) : Nat) : Int) + ((offsetN x l.level : Nat) : Int)))) (.int .u64 (((((l.pte.ppn * 4096) + offsetN x l.level) : Nat) : Int))) kr (SX.u_add (l.pte.ppn * 4096) (offsetN x l.level) ko)
 refine SX.takes [0] [(9, none)] A H kr kd kr kr kr (Or.inl kr) fun ac A => ?_
 refine SX.doneD kr ?_ _
 refine XT (XW (Xr [0] (.int .u64 (((((l.pte.ppn * 4096) + offsetN x l.level) : Nat) : Int))) A H ?_))
 rfl
theorem Covers_calls (e : D.Entry) (x : Nat)  (w0 : World) (hL : Ld w0) (hx : x < 18446744073709551616) (hl : e.valid = true → e.level = 0 ∨ e.level = 1 ∨ e.level = 2) : SX.Gives Tryz.prog 246 #[(D.Entry.enc e), .int .u64 (((x : Nat) : Int))] w0 (.bool (e.covers x)) := by
 refine SX.enter (args := [(D.Entry.enc e), .int .u64 (((x : Nat) : Int))]) 17 Tryz.func246 rfl kr fun ac A H => XS (XR (Xb [0, 0] A H fun ac w A H => XD (XT (XS (SX.drawn 13 [0] kr A H fun w H => SX.takes [0] [(0, none), (1, some 0), (2, none)] A H kr kd kr kr kr (Or.inl kr) fun ac A => ?_)))))
 refine Xs (e.valid) (fun h1 => ?_) fun h1 => ?_
 ·
  have A := A.rb 7 h1
  refine SX.takes [0] [(3, none), (4, none), (5, some 0), (8, none), (9, some 0)] A H kr kd kr kr kr (Or.inl kr) fun ac A => SX.callGD 6 [0] A H (Base_calls x e.level w (hL.below H.below) ko ((hl h1))) kr kr kr kr (Or.inl kr) fun ac w A H => SX.callGD 7 [0] A H (Number_calls (baseN x e.level) w (by have := Nat.sub_le x (offsetN x e.level); unfold baseN; omega)) kr kr kr kr (Or.inl kr) fun ac w A H => SX.takes [0] [(10, none), (11, none), (12, none)] A H kr kd kr kr kr (Or.inl kr) fun ac A => ?_
  refine SX.doneD kr ?_ _
  refine XT (XW (Xr [0] (.bool (((numberN (baseN x e.level) : Nat) : Int) == ((e.vpn : Nat) : Int))) A H (congrArg Value.bool ?_)))
  first | (simp [D.Entry.covers, h1]; done) | (rw [Bool.eq_iff_iff]; simp [D.Entry.covers, h1]; done) | (rw [Bool.eq_iff_iff]; simp [D.Entry.covers, h1]; omega)
 ·
  have A := A.rb 7 h1
  refine SX.takes [0] [(3, none), (4, none), (5, none), (6, none), (7, none), (8, none), (9, none), (10, none), (11, none), (12, none)] A H kr kd kr kr kr (Or.inl kr) fun ac A => ?_
  refine SX.doneD kr ?_ _
  refine XT (XW (Xr [0] (.bool false) A H (congrArg Value.bool ?_)))
  first | (simp [D.Entry.covers, h1]; done) | (rw [Bool.eq_iff_iff]; simp [D.Entry.covers, h1]; done) | (rw [Bool.eq_iff_iff]; simp [D.Entry.covers, h1]; omega)
theorem Matches_calls (e : D.Entry) (asid : Nat) (x : Nat)  (w0 : World) (hL : Ld w0) (hx : x < 18446744073709551616) (hl : e.valid = true → e.level = 0 ∨ e.level = 1 ∨ e.level = 2) : SX.Gives Tryz.prog 239 #[(D.Entry.enc e), .int .u64 (((asid : Nat) : Int)), .int .u64 (((x : Nat) : Int))] w0 (.bool (e.hits asid x)) := by
 refine SX.enter (args := [(D.Entry.enc e), .int .u64 (((asid : Nat) : Int)), .int .u64 (((x : Nat) : Int))]) 20 Tryz.func239 rfl kr fun ac A H => XS (XR (Xb [0, 0] A H fun ac w A H => XD (XT (XS (XR (Xb [0, 0] A H fun ac w A H => Xc A H (Covers_calls e x w (hL.below H.below) ko (hl)) fun ac w A H => Xb [0] A H fun ac w A H => ?_))))))
 refine Xs (e.covers x) (fun h1 => ?_) fun h1 => ?_
 ·
  have A := A.rb 10 h1
  refine Xb [0, 0, 0] A H fun ac w A H => ?_
  refine Xs (e.global) (fun h2 => ?_) fun h2 => ?_
  ·
   have A := A.rb 13 h2
   refine Xb [0, 0, 0, 0, 0, 0, 0] A H fun ac w A H => XD (XT (XW (Xr [0] (.bool true) A H (congrArg Value.bool ?_))))
   first | (simp [D.Entry.hits, h1, h2]; done) | (rw [Bool.eq_iff_iff]; simp [D.Entry.hits, h1, h2]; done) | (rw [Bool.eq_iff_iff]; simp [D.Entry.hits, h1, h2]; omega)
  ·
   have A := A.rb 13 h2
   refine Xb [0, 0, 0, 0, 0, 0, 0] A H fun ac w A H => XD (XT (XW (Xr [0] (.bool (((e.asid : Nat) : Int) == ((asid : Nat) : Int))) A H (congrArg Value.bool ?_))))
   first | (simp [D.Entry.hits, h1, h2]; done) | (rw [Bool.eq_iff_iff]; simp [D.Entry.hits, h1, h2]; done) | (rw [Bool.eq_iff_iff]; simp [D.Entry.hits, h1, h2]; omega)
 ·
  have A := A.rb 10 h1
  refine Xb [0, 0, 0, 0, 0, 0, 0, 0, 0, 0] A H fun ac w A H => XD (XT (XW (Xr [0] (.bool false) A H (congrArg Value.bool ?_))))
  first | (simp [D.Entry.hits, h1]; done) | (rw [Bool.eq_iff_iff]; simp [D.Entry.hits, h1]; done) | (rw [Bool.eq_iff_iff]; simp [D.Entry.hits, h1]; omega)
theorem Find1_calls (e : D.Entry) (level : Int) (asid : Nat) (x : Nat) (w0 : World) (hL : Ld w0) (blevel : Nat) (Tlevel : TypeId) (flevel : Nat × Nat) (hblevel : w0.heap[blevel]? = some (.cells #[.int .i64 level] Tlevel flevel)) (basid : Nat) (Tasid : TypeId) (fasid : Nat × Nat) (hbasid : w0.heap[basid]? = some (.cells #[.int .u64 (((asid : Nat) : Int))] Tasid fasid)) (bx : Nat) (Tx : TypeId) (fx : Nat × Nat) (hbx : w0.heap[bx]? = some (.cells #[.int .u64 (((x : Nat) : Int))] Tx fx)) (hx : x < 18446744073709551616) (hl : e.valid = true → e.level = 0 ∨ e.level = 1 ∨ e.level = 2) : SX.Gives Tryz.prog 238 #[(D.Entry.enc e), .pointer (some ⟨blevel, 0, none⟩), .pointer (some ⟨basid, 0, none⟩), .pointer (some ⟨bx, 0, none⟩)] w0 (.bool (decide (e.level = level) && e.hits asid x)) := by
 refine SX.enter (args := [(D.Entry.enc e), .pointer (some ⟨blevel, 0, none⟩), .pointer (some ⟨basid, 0, none⟩), .pointer (some ⟨bx, 0, none⟩)]) 16 Tryz.func238 rfl kr fun ac A H => ?_
 have H := H.fb_old hblevel
 have H := H.fb_old hbasid
 have H := H.fb_old hbx
 refine XS (XR (Xb [0, 0] A H fun ac w A H => XD (XT (XS (XR (Xb [0, 0, 1000, 0, 0] A H fun ac w A H => ?_))))))
 refine Xs (e.level == level) (fun h1 => ?_) fun h1 => ?_
 ·
  have A := A.rb 10 h1
  have h1p : e.level = level := kp h1
  refine Xb [0, 1001, 1002] A H fun ac w A H => Xc A H (Matches_calls e asid x w (hL.below H.below) ko (hl)) fun ac w A H => Xb [0, 0] A H fun ac w A H => XD (XT (XW (Xr [0] (.bool (e.hits asid x)) A H (congrArg Value.bool ?_))))
  first | (simp [h1, h1p]; done) | (rw [Bool.eq_iff_iff]; simp [h1, h1p]; done) | (rw [Bool.eq_iff_iff]; simp [h1, h1p]; omega)
 ·
  have A := A.rb 10 h1
  have h1p : ¬ (e.level = level) := kp h1
  refine Xb [0, 0, 0, 0, 0, 0] A H fun ac w A H => XD (XT (XW (Xr [0] (.bool false) A H (congrArg Value.bool ?_))))
  first | (simp [h1, h1p]; done) | (rw [Bool.eq_iff_iff]; simp [h1, h1p]; done) | (rw [Bool.eq_iff_iff]; simp [h1, h1p]; omega)
theorem fAddr_calls (f : D.Fence) (e : D.Entry)  (w0 : World) (hL : Ld w0) (hx : f.addr < 18446744073709551616) (hl : e.valid = true → e.level = 0 ∨ e.level = 1 ∨ e.level = 2) : SX.Gives Tryz.prog 263 #[(D.Fence.enc f), (D.Entry.enc e)] w0 (.bool (!f.hasAddr || (isN f.addr && e.covers f.addr))) := by
 refine SX.enter (args := [(D.Fence.enc f), (D.Entry.enc e)]) 19 Tryz.func263 rfl kr fun ac A H => XS (XR (Xb [0, 0, 0] A H fun ac w A H => XD (XT (XS (XR (Xb [0, 0, 0, 0] A H fun ac w A H => ?_))))))
 refine Xs (!f.hasAddr) (fun h1 => ?_) fun h1 => ?_
 ·
  have A := A.rb 8 h1
  refine Xb [0, 0, 0, 0, 0, 0, 0, 0, 0, 0, 0] A H fun ac w A H => XD (XT (XW (Xr [0] (.bool true) A H (congrArg Value.bool ?_))))
  first | (simp [h1]; done) | (rw [Bool.eq_iff_iff]; simp [h1]; done) | (rw [Bool.eq_iff_iff]; simp [h1]; omega)
 ·
  have A := A.rb 8 h1
  refine Xb [0, 0] A H fun ac w A H => Xc A H (Is_calls f.addr w) fun ac w A H => Xb [0] A H fun ac w A H => ?_
  refine Xs (isN f.addr) (fun h2 => ?_) fun h2 => ?_
  ·
   have A := A.rb 12 h2
   refine Xb [1, 0, 0] A H fun ac w A H => Xc A H (Covers_calls e f.addr w (hL.below H.below) ko (hl)) fun ac w A H => Xb [0, 0, 0] A H fun ac w A H => XD (XT (XW (Xr [0] (.bool (e.covers f.addr)) A H (congrArg Value.bool ?_))))
   first | (simp [h1, h2]; done) | (rw [Bool.eq_iff_iff]; simp [h1, h2]; done) | (rw [Bool.eq_iff_iff]; simp [h1, h2]; omega)
  ·
   have A := A.rb 12 h2
   refine Xb [0, 0, 0, 0, 0, 0, 0] A H fun ac w A H => XD (XT (XW (Xr [0] (.bool false) A H (congrArg Value.bool ?_))))
   first | (simp [h1, h2]; done) | (rw [Bool.eq_iff_iff]; simp [h1, h2]; done) | (rw [Bool.eq_iff_iff]; simp [h1, h2]; omega)
theorem fAsid2_calls (f : D.Fence) (e : D.Entry)  (w0 : World) : SX.Gives Tryz.prog 265 #[(D.Fence.enc f), (D.Entry.enc e)] w0 (.bool (!f.hasAsid || (!e.global && decide (e.asid = f.asid)))) := by
 refine SX.enter (args := [(D.Fence.enc f), (D.Entry.enc e)]) 20 Tryz.func265 rfl kr fun ac A H => XS (XR (Xb [0, 0, 0] A H fun ac w A H => XD (XT (XS (XR (Xb [0, 0, 0, 0] A H fun ac w A H => ?_))))))
 refine Xs (!f.hasAsid) (fun h1 => ?_) fun h1 => ?_
 ·
  have A := A.rb 8 h1
  refine Xb [0, 0, 0, 0, 0, 0, 0, 0, 0, 0, 0, 0] A H fun ac w A H => XD (XT (XW (Xr [0] (.bool true) A H (congrArg Value.bool ?_))))
  first | (simp [h1]; done) | (rw [Bool.eq_iff_iff]; simp [h1]; done) | (rw [Bool.eq_iff_iff]; simp [h1]; omega)
 ·
  have A := A.rb 8 h1
  refine Xb [0, 1, 0, 0] A H fun ac w A H => ?_
  refine Xs (!e.global) (fun h2 => ?_) fun h2 => ?_
  ·
   have A := A.rb 12 h2
   refine Xb [0, 1, 0, 0, 0, 0, 0, 0] A H fun ac w A H => XD (XT (XW (Xr [0] (.bool (((e.asid : Nat) : Int) == ((f.asid : Nat) : Int))) A H (congrArg Value.bool ?_))))
   first | (simp [h1, h2]; done) | (rw [Bool.eq_iff_iff]; simp [h1, h2]; done) | (rw [Bool.eq_iff_iff]; simp [h1, h2]; omega)
  ·
   have A := A.rb 12 h2
   refine Xb [0, 0, 0, 0, 0, 0, 0, 0] A H fun ac w A H => XD (XT (XW (Xr [0] (.bool false) A H (congrArg Value.bool ?_))))
   first | (simp [h1, h2]; done) | (rw [Bool.eq_iff_iff]; simp [h1, h2]; done) | (rw [Bool.eq_iff_iff]; simp [h1, h2]; omega)
theorem Same_calls (e : D.Entry) (f : D.Entry)  (w0 : World) : SX.Gives Tryz.prog 233 #[(D.Entry.enc e), (D.Entry.enc f)] w0 (.bool (e.same f)) := by
 refine SX.enter (args := [(D.Entry.enc e), (D.Entry.enc f)]) 40 Tryz.func233 rfl kr fun ac A H => XS (XR (Xb [0, 0, 0] A H fun ac w A H => XD (XT (XS (XS (XR (Xb [0, 0, 0, 0] A H fun ac w A H => ?_)))))))
 refine Xs (!e.valid) (fun h1 => ?_) fun h1 => ?_
 ·
  have A := A.rb 8 h1
  refine Xb [0, 0, 0, 0, 0, 0, 0, 0, 0, 0, 0, 0, 0, 0, 0, 0, 0, 0] A H fun ac w A H => XD (XT (Xt A (XS (XR (Xb [0] A H fun ac w A H => XD (XT (XW (XU (Xr [0] (.bool false) A H (congrArg Value.bool ?_))))))))))
  first | (simp [D.Entry.same, h1]; done) | (rw [Bool.eq_iff_iff]; simp [D.Entry.same, h1]; done) | (rw [Bool.eq_iff_iff]; simp [D.Entry.same, h1]; omega)
 ·
  have A := A.rb 8 h1
  refine Xb [0, 1, 0, 0, 0] A H fun ac w A H => ?_
  refine Xs (!f.valid) (fun h2 => ?_) fun h2 => ?_
  ·
   have A := A.rb 13 h2
   refine Xb [0, 0, 0, 0, 0, 0, 0, 0, 0, 0, 0, 0, 0] A H fun ac w A H => XD (XT (Xt A (XS (XR (Xb [0] A H fun ac w A H => XD (XT (XW (XU (Xr [0] (.bool false) A H (congrArg Value.bool ?_))))))))))
   first | (simp [D.Entry.same, h1, h2]; done) | (rw [Bool.eq_iff_iff]; simp [D.Entry.same, h1, h2]; done) | (rw [Bool.eq_iff_iff]; simp [D.Entry.same, h1, h2]; omega)
  ·
   have A := A.rb 13 h2
   refine Xb [0, 0, 0, 1, 0, 0, 0] A H fun ac w A H => ?_
   refine Xs (e.level != f.level) (fun h3 => ?_) fun h3 => ?_
   ·
    have A := A.rb 20 h3
    have h3p : e.level ≠ f.level := kp h3
    refine Xb [0, 0, 0, 0, 0, 0] A H fun ac w A H => XD (XT (Xt A (XS (XR (Xb [0] A H fun ac w A H => XD (XT (XW (XU (Xr [0] (.bool false) A H (congrArg Value.bool ?_))))))))))
    first | (simp [D.Entry.same, h1, h2, h3, h3p]; done) | (rw [Bool.eq_iff_iff]; simp [D.Entry.same, h1, h2, h3, h3p]; done) | (rw [Bool.eq_iff_iff]; simp [D.Entry.same, h1, h2, h3, h3p]; omega)
   ·
    have A := A.rb 20 h3
    have h3p : ¬ (e.level ≠ f.level) := kp h3
    refine Xb [0, 0, 0, 1, 0, 0] A H fun ac w A H => XD (XT ?_)
    refine Xs (((e.vpn : Nat) : Int) != ((f.vpn : Nat) : Int)) (fun h4 => ?_) fun h4 => ?_
    ·
     have A := A.rb 26 h4
     have h4p : e.vpn ≠ f.vpn := kp h4
     refine Xt A (XS (XR (Xb [0] A H fun ac w A H => XD (XT (XW (XU (Xr [0] (.bool false) A H (congrArg Value.bool ?_))))))))
     first | (simp [D.Entry.same, h1, h2, h3, h4, h3p, h4p]; done) | (rw [Bool.eq_iff_iff]; simp [D.Entry.same, h1, h2, h3, h4, h3p, h4p]; done) | (rw [Bool.eq_iff_iff]; simp [D.Entry.same, h1, h2, h3, h4, h3p, h4p]; omega)
    ·
     have A := A.rb 26 h4
     have h4p : ¬ (e.vpn ≠ f.vpn) := kp h4
     refine Xf A (XK (XT (XS (XR (Xb [0, 0, 0] A H fun ac w A H => ?_)))))
     refine Xs (e.global) (fun h5 => ?_) fun h5 => ?_
     ·
      have A := A.rb 29 h5
      refine Xb [0, 0, 0, 0, 0, 0, 0, 0, 0, 0, 0] A H fun ac w A H => XD (XT (XW (Xr [0] (.bool true) A H (congrArg Value.bool ?_))))
      first | (simp [D.Entry.same, h1, h2, h3, h4, h5, h3p, h4p]; done) | (rw [Bool.eq_iff_iff]; simp [D.Entry.same, h1, h2, h3, h4, h5, h3p, h4p]; done) | (rw [Bool.eq_iff_iff]; simp [D.Entry.same, h1, h2, h3, h4, h5, h3p, h4p]; omega)
     ·
      have A := A.rb 29 h5
      refine Xb [0, 1, 0, 0] A H fun ac w A H => ?_
      refine Xs (f.global) (fun h6 => ?_) fun h6 => ?_
      ·
       have A := A.rb 33 h6
       refine Xb [0, 0, 0, 0, 0, 0, 0] A H fun ac w A H => XD (XT (XW (Xr [0] (.bool true) A H (congrArg Value.bool ?_))))
       first | (simp [D.Entry.same, h1, h2, h3, h4, h5, h6, h3p, h4p]; done) | (rw [Bool.eq_iff_iff]; simp [D.Entry.same, h1, h2, h3, h4, h5, h6, h3p, h4p]; done) | (rw [Bool.eq_iff_iff]; simp [D.Entry.same, h1, h2, h3, h4, h5, h6, h3p, h4p]; omega)
      ·
       have A := A.rb 33 h6
       refine Xb [0, 0, 0, 1, 0, 0, 0] A H fun ac w A H => XD (XT (XW (Xr [0] (.bool (((e.asid : Nat) : Int) == ((f.asid : Nat) : Int))) A H (congrArg Value.bool ?_))))
       first | (simp [D.Entry.same, h1, h2, h3, h4, h5, h6, h3p, h4p]; done) | (rw [Bool.eq_iff_iff]; simp [D.Entry.same, h1, h2, h3, h4, h5, h6, h3p, h4p]; done) | (rw [Bool.eq_iff_iff]; simp [D.Entry.same, h1, h2, h3, h4, h5, h6, h3p, h4p]; omega)
theorem goes1_calls (e : D.Entry)  (w0 : World) : SX.Gives Tryz.prog 242 #[(D.Entry.enc e)] w0 (.bool (!e.valid)) := by
 refine SX.enter (args := [(D.Entry.enc e)]) 6 Tryz.func242 rfl kr fun ac A H => XS (XR (Xb [0, 0] A H fun ac w A H => XD (XT (XS (XR (Xb [0, 0, 0, 0] A H fun ac w A H => XD (XT (XW (Xr [0] (.bool (!e.valid)) A H ?_)))))))))
 rfl
theorem slot_calls (t : Nat) (x : Nat) (level : Int)  (w0 : World) (hx : x < 18446744073709551616) (ht : t < 4503599627370496 - 1) (hl : level = 0 ∨ level = 1 ∨ level = 2) : SX.Gives Tryz.prog 217 #[.int .u64 (((t : Nat) : Int)), .int .u64 (((x : Nat) : Int)), .int .i64 level] w0 (.int .u64 (((placeN t (indexN x level) : Nat) : Int))) := by
 have hi := indexN_lt x level
 refine SX.enter (args := [.int .u64 (((t : Nat) : Int)), .int .u64 (((x : Nat) : Int)), .int .i64 level]) 15 Tryz.func217 rfl kr fun ac A H => XS (XR (Xb [0] A H fun ac w A H => XD (XT (XS (XR (Xb [0, 0] A H fun ac w A H => ?_))))))
 have A := A.re 8 (.int .u64 (IntKind.u64.wrap (((t : Nat) : Int) * 4096))) (.int .u64 ((((t * 4096) : Nat) : Int))) kr (SX.u_mul t 4096 ko)
 refine Xb [0, 0] A H fun ac w A H => Xc A H (Index_calls x level w ko (hl)) fun ac w A H => Xb [0] A H fun ac w A H => ?_
 have A := A.re 12 (.int .u64 (IntKind.u64.wrap (((indexN x level : Nat) : Int)))) (.int .u64 (((indexN x level : Nat) : Int))) kr (SX.u_in _ ko)
 refine Xb [0] A H fun ac w A H => ?_
 have A := A.re 13 (.int .u64 (IntKind.u64.wrap (((indexN x level : Nat) : Int) * 8))) (.int .u64 ((((indexN x level * 8) : Nat) : Int))) kr (SX.u_mul (indexN x level) 8 ko)
 refine Xb [0] A H fun ac w A H => ?_
 have A := A.re 14 (.int .u64 (IntKind.u64.wrap ((((t * 4096) : Nat) : Int) + (((indexN x level * 8) : Nat) : Int)))) (.int .u64 (((((t * 4096) + (indexN x level * 8)) : Nat) : Int))) kr (SX.u_add (t * 4096) (indexN x level * 8) ko)
 refine Xb [0] A H fun ac w A H => XD (XT (XW (Xr [0] (.int .u64 (((((t * 4096) + (indexN x level * 8)) : Nat) : Int))) A H ?_)))
 rfl
theorem eOf_calls (l : D.Leaf) (x : Nat) (asid : Nat)  (w0 : World) (hL : Ld w0) (hx : x < 18446744073709551616) (hl : l.level = 0 ∨ l.level = 1 ∨ l.level = 2) : SX.Gives Tryz.prog 186 #[(D.Leaf.enc l), .int .u64 (((x : Nat) : Int)), .int .u64 (((asid : Nat) : Int))] w0 ((D.Entry.enc (D.Entry.of l x asid))) := by
 refine SX.enter (args := [(D.Leaf.enc l), .int .u64 (((x : Nat) : Int)), .int .u64 (((asid : Nat) : Int))]) 28 Tryz.func186 rfl kr fun ac A H => XS (XR (Xb [0, 0] A H fun ac w A H => XD (XT (XS (SX.drawn 22 [0] kr A H fun w H => SX.takes [0] [(0, none), (1, none), (2, none), (3, some 0), (4, none), (5, some 0), (6, none), (7, none), (8, some 0), (11, none), (12, none), (13, some 0), (14, none), (15, some 0), (17, none), (18, none), (19, some 0)] A H kr kd kr kr kr (Or.inl kr) fun ac A => SX.callGD 9 [0] A H (Base_calls x l.level w (hL.below H.below) ko (hl)) kr kr kr kr (Or.inl kr) fun ac w A H => SX.callGD 10 [0] A H (Number_calls (baseN x l.level) w (by have := Nat.sub_le x (offsetN x l.level); unfold baseN; omega)) kr kr kr kr (Or.inl kr) fun ac w A H => SX.callGD 16 [0] A H (Perm_calls l.pte w) kr kr kr kr (Or.inl kr) fun ac w A H => SX.takes [0] [(20, none)] A H kr kd kr kr kr (Or.inl kr) fun ac A => SX.act 21 1 [0] A H kr kr kr (Or.inl kr) fun ac w A H => ?_)))))
 refine SX.doneD kr ?_ _
 refine XT (XW (Xr [1] ((D.Entry.enc (⟨true, asid, l.pte.g, l.level, numberN (baseN x l.level), l.pte.ppn, (D.Pte.perm l.pte), l.pte.d⟩ : D.Entry))) A H ?_))
 rfl
end Go.Proofs.YtfkmcdkncmapmaaGreatDoor
