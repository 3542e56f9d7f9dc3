/- Walks of functions, written by the session's own program wip/sx/sxgen.py; Lean checks them. -/
import Derived.Test.YtfkmcdkncmapmaaGreatDoorY02
import Derived.Test.YtfkmcdkncmapmaaGreatDoorY07
import Derived.Test.YtfkmcdkncmapmaaGreatDoorProg
import Derived.Test.YtfkmcdkncmapmaaGreatDoorY05
set_option linter.unusedVariables false
set_option linter.unusedSimpArgs false
set_option maxRecDepth 100000
set_option maxHeartbeats 2000000
namespace Go.Proofs.YtfkmcdkncmapmaaGreatDoor
open Go Go.RowKit
namespace D
def bitB (x i : Nat) : Bool := decide (Bits.getN x i 1 = 1)
def Pte.link (p : Pte) : Bool := p.v && !p.r && !p.x
def Pte.leaf (p : Pte) : Bool := p.v && (p.r || p.x)
def Pte.bad (p : Pte) (l : Int) : Bool :=
 if !p.v || (p.w && !p.r) || decide (p.high ≠ 0) then true
 else if p.link then decide (l = 0) || p.a || p.d || p.u else !even p.ppn (sizeN l / 4096)
def Pte.links (p : Pte) (l : Int) : Bool := p.link && !p.bad l
def Pte.of (f : Nat) : Pte := ⟨true, false, false, false, false, false, false, false, 0, f, 0⟩
def Pte.make (f : Nat) (p : Perm) (g : Bool) : Pte := ⟨true, p.r, p.w, p.x, p.u, g, false, false, 0, f, 0⟩
def Pte.perm (p : Pte) : Perm := ⟨p.r, p.w, p.x, p.u⟩
def Pte.may (p : Pte) : Bool := fits p.rsw 2 && fits p.ppn 44 && fits p.high 10
def Pte.get (x : Nat) : Pte := ⟨bitB x 0, bitB x 1, bitB x 2, bitB x 3, bitB x 4, bitB x 5, bitB x 6, bitB x 7, Bits.getN x 8 2, Bits.getN x 10 44, Bits.getN x 54 10⟩
def Perm.may (p : Perm) : Bool := (p.r || p.x) && (p.r || !p.w)
end D
theorem Link_calls (p : D.Pte)  (w0 : World) : SX.Gives Tryz.prog 127 #[(D.Pte.enc p)] w0 (.bool p.link) := by
 refine SX.enter (args := [(D.Pte.enc p)]) 15 Tryz.func127 rfl kr fun ac A H => XS (XR (Xb [0, 0] A H fun ac w A H => XD (XT (XS (XR (Xb [0, 0, 0] A H fun ac w A H => ?_))))))
 refine Xs (p.v) (fun h1 => ?_) fun h1 => ?_
 ·
  have A := A.rb 5 h1
  refine Xb [0, 0, 0, 0, 0] A H fun ac w A H => ?_
  refine Xs (!p.r) (fun h2 => ?_) fun h2 => ?_
  ·
   have A := A.rb 10 h2
   refine Xb [0, 0, 0, 0, 0] A H fun ac w A H => XD (XT (XW (Xr [0] (.bool (!p.x)) A H (congrArg Value.bool ?_))))
   first | (simp [D.Pte.link, h1, h2]; done) | (rw [Bool.eq_iff_iff]; simp [D.Pte.link, h1, h2]; done) | (rw [Bool.eq_iff_iff]; simp [D.Pte.link, h1, h2]; omega)
  ·
   have A := A.rb 10 h2
   refine Xb [0, 0, 0, 0, 0] A H fun ac w A H => XD (XT (XW (Xr [0] (.bool false) A H (congrArg Value.bool ?_))))
   first | (simp [D.Pte.link, h1, h2]; done) | (rw [Bool.eq_iff_iff]; simp [D.Pte.link, h1, h2]; done) | (rw [Bool.eq_iff_iff]; simp [D.Pte.link, h1, h2]; omega)
 ·
  have A := A.rb 5 h1
  refine Xb [0, 0, 0, 0, 0, 0, 0, 0, 0, 0] A H fun ac w A H => XD (XT (XW (Xr [0] (.bool false) A H (congrArg Value.bool ?_))))
  first | (simp [D.Pte.link, h1]; done) | (rw [Bool.eq_iff_iff]; simp [D.Pte.link, h1]; done) | (rw [Bool.eq_iff_iff]; simp [D.Pte.link, h1]; omega)
theorem Leaf_calls (p : D.Pte)  (w0 : World) : SX.Gives Tryz.prog 166 #[(D.Pte.enc p)] w0 (.bool p.leaf) := by
 refine SX.enter (args := [(D.Pte.enc p)]) 13 Tryz.func166 rfl kr fun ac A H => XS (XR (Xb [0, 0] A H fun ac w A H => XD (XT (XS (XR (Xb [0, 0, 0] A H fun ac w A H => ?_))))))
 refine Xs (p.v) (fun h1 => ?_) fun h1 => ?_
 ·
  have A := A.rb 5 h1
  refine Xb [0, 0, 0] A H fun ac w A H => ?_
  refine Xs (p.r) (fun h2 => ?_) fun h2 => ?_
  ·
   have A := A.rb 8 h2
   refine Xb [0, 0, 0, 0, 0] A H fun ac w A H => XD (XT (XW (Xr [0] (.bool true) A H (congrArg Value.bool ?_))))
   first | (simp [D.Pte.leaf, h1, h2]; done) | (rw [Bool.eq_iff_iff]; simp [D.Pte.leaf, h1, h2]; done) | (rw [Bool.eq_iff_iff]; simp [D.Pte.leaf, h1, h2]; omega)
  ·
   have A := A.rb 8 h2
   refine Xb [0, 0, 0, 0, 0] A H fun ac w A H => XD (XT (XW (Xr [0] (.bool p.x) A H (congrArg Value.bool ?_))))
   first | (simp [D.Pte.leaf, h1, h2]; done) | (rw [Bool.eq_iff_iff]; simp [D.Pte.leaf, h1, h2]; done) | (rw [Bool.eq_iff_iff]; simp [D.Pte.leaf, h1, h2]; omega)
 ·
  have A := A.rb 5 h1
  refine Xb [0, 0, 0, 0, 0, 0, 0, 0] A H fun ac w A H => XD (XT (XW (Xr [0] (.bool false) A H (congrArg Value.bool ?_))))
  first | (simp [D.Pte.leaf, h1]; done) | (rw [Bool.eq_iff_iff]; simp [D.Pte.leaf, h1]; done) | (rw [Bool.eq_iff_iff]; simp [D.Pte.leaf, h1]; omega)
theorem Bad_calls (p : D.Pte) (level : Int)  (w0 : World) (hL : Ld w0) (hl : level = 0 ∨ level = 1 ∨ level = 2) : SX.Gives Tryz.prog 157 #[(D.Pte.enc p), .int .i64 level] w0 (.bool (p.bad level)) := by
 refine SX.enter (args := [(D.Pte.enc p), .int .i64 level]) 47 Tryz.func157 rfl kr fun ac A H => XS (XR (Xb [0, 0] A H fun ac w A H => XD (XT (XS (XB (XS (XR (Xb [0, 0, 0, 0] A H fun ac w A H => ?_))))))))
 refine Xs (!p.v) (fun h1 => ?_) fun h1 => ?_
 ·
  have A := A.rb 9 h1
  refine Xb [0, 0, 0, 0, 0, 0, 0, 0, 0, 0, 0, 0, 0, 0] A H fun ac w A H => XD (XT (Xt A (XS (XR (Xb [0] A H fun ac w A H => XD (XT (XW (XQ (XU (Xr [0] (.bool true) A H (congrArg Value.bool ?_)))))))))))
  first | (simp [D.Pte.bad, h1]; done) | (rw [Bool.eq_iff_iff]; simp [D.Pte.bad, h1]; done) | (rw [Bool.eq_iff_iff]; simp [D.Pte.bad, h1]; omega)
 ·
  have A := A.rb 9 h1
  refine Xb [0, 0, 0] A H fun ac w A H => ?_
  refine Xs (p.w) (fun h2 => ?_) fun h2 => ?_
  ·
   have A := A.rb 12 h2
   refine Xb [0, 0, 0, 0, 0, 0] A H fun ac w A H => ?_
   refine Xs (!p.r) (fun h3 => ?_) fun h3 => ?_
   ·
    have A := A.rb 18 h3
    refine Xb [0, 0, 0, 0, 0] A H fun ac w A H => XD (XT (Xt A (XS (XR (Xb [0] A H fun ac w A H => XD (XT (XW (XQ (XU (Xr [0] (.bool true) A H (congrArg Value.bool ?_)))))))))))
    first | (simp [D.Pte.bad, h1, h2, h3]; done) | (rw [Bool.eq_iff_iff]; simp [D.Pte.bad, h1, h2, h3]; done) | (rw [Bool.eq_iff_iff]; simp [D.Pte.bad, h1, h2, h3]; omega)
   ·
    have A := A.rb 18 h3
    refine Xb [0, 0, 0, 0, 0] A H fun ac w A H => XD (XT ?_)
    refine Xs (((p.high : Nat) : Int) != 0) (fun h4 => ?_) fun h4 => ?_
    ·
     have A := A.rb 5 h4
     have h4p : p.high ≠ 0 := kp h4
     refine Xt A (XS (XR (Xb [0] A H fun ac w A H => XD (XT (XW (XQ (XU (Xr [0] (.bool true) A H (congrArg Value.bool ?_)))))))))
     first | (simp [D.Pte.bad, h1, h2, h3, h4, h4p]; done) | (rw [Bool.eq_iff_iff]; simp [D.Pte.bad, h1, h2, h3, h4, h4p]; done) | (rw [Bool.eq_iff_iff]; simp [D.Pte.bad, h1, h2, h3, h4, h4p]; omega)
    ·
     have A := A.rb 5 h4
     have h4p : ¬ (p.high ≠ 0) := kp h4
     refine Xf A (XS (XR (Xb [0] A H fun ac w A H => Xc A H (Link_calls p w) fun ac w A H => Xb [0] A H fun ac w A H => XD (XT ?_))))
     refine Xs (p.link) (fun h5 => ?_) fun h5 => ?_
     ·
      have A := A.rb 23 h5
      refine Xt A (XS (XR (Xb [0, 0, 0] A H fun ac w A H => ?_)))
      refine Xs (level == 0) (fun h6 => ?_) fun h6 => ?_
      ·
       have A := A.rb 28 h6
       have h6p : level = 0 := kp h6
       refine Xb [0, 0, 0, 0, 0, 0, 0, 0, 0, 0, 0, 0] A H fun ac w A H => XD (XT (XW (XQ (XU (Xr [0] (.bool true) A H (congrArg Value.bool ?_))))))
       first | (simp [D.Pte.bad, h1, h2, h3, h4, h5, h6, h4p, h6p]; done) | (rw [Bool.eq_iff_iff]; simp [D.Pte.bad, h1, h2, h3, h4, h5, h6, h4p, h6p]; done) | (rw [Bool.eq_iff_iff]; simp [D.Pte.bad, h1, h2, h3, h4, h5, h6, h4p, h6p]; omega)
      ·
       have A := A.rb 28 h6
       have h6p : ¬ (level = 0) := kp h6
       refine Xb [0, 0, 0, 0] A H fun ac w A H => ?_
       refine Xs (p.a) (fun h7 => ?_) fun h7 => ?_
       ·
        have A := A.rb 32 h7
        refine Xb [0, 0, 0, 0, 0, 0, 0, 0] A H fun ac w A H => XD (XT (XW (XQ (XU (Xr [0] (.bool true) A H (congrArg Value.bool ?_))))))
        first | (simp [D.Pte.bad, h1, h2, h3, h4, h5, h6, h7, h4p, h6p]; done) | (rw [Bool.eq_iff_iff]; simp [D.Pte.bad, h1, h2, h3, h4, h5, h6, h7, h4p, h6p]; done) | (rw [Bool.eq_iff_iff]; simp [D.Pte.bad, h1, h2, h3, h4, h5, h6, h7, h4p, h6p]; omega)
       ·
        have A := A.rb 32 h7
        refine Xb [0, 0, 0, 0] A H fun ac w A H => ?_
        refine Xs (p.d) (fun h8 => ?_) fun h8 => ?_
        ·
         have A := A.rb 36 h8
         refine Xb [0, 0, 0, 0] A H fun ac w A H => XD (XT (XW (XQ (XU (Xr [0] (.bool true) A H (congrArg Value.bool ?_))))))
         first | (simp [D.Pte.bad, h1, h2, h3, h4, h5, h6, h7, h8, h4p, h6p]; done) | (rw [Bool.eq_iff_iff]; simp [D.Pte.bad, h1, h2, h3, h4, h5, h6, h7, h8, h4p, h6p]; done) | (rw [Bool.eq_iff_iff]; simp [D.Pte.bad, h1, h2, h3, h4, h5, h6, h7, h8, h4p, h6p]; omega)
        ·
         have A := A.rb 36 h8
         refine Xb [0, 0, 0, 0] A H fun ac w A H => XD (XT (XW (XQ (XU (Xr [0] (.bool p.u) A H (congrArg Value.bool ?_))))))
         first | (simp [D.Pte.bad, h1, h2, h3, h4, h5, h6, h7, h8, h4p, h6p]; done) | (rw [Bool.eq_iff_iff]; simp [D.Pte.bad, h1, h2, h3, h4, h5, h6, h7, h8, h4p, h6p]; done) | (rw [Bool.eq_iff_iff]; simp [D.Pte.bad, h1, h2, h3, h4, h5, h6, h7, h8, h4p, h6p]; omega)
     ·
      have A := A.rb 23 h5
      refine Xf A (XK (XN (XT (XS (SX.drawn 8 [0] kr A H fun w H => SX.takes [0] [(0, none), (1, some 0), (2, none)] A H kr kd kr kr kr (Or.inl kr) fun ac A => SX.callGD 3 [0] A H (Size_calls level w (hL.below H.below) (hl)) kr kr kr kr (Or.inl kr) fun ac w A H => SX.takes [0] [(4, none)] A H kr kd kr kr kr (Or.inl kr) fun ac A => ?_)))))
      have A := A.re 44 (.int .u64 (IntKind.u64.wrap (Int.tdiv ((sizeN level : Nat) : Int) 4096))) (.int .u64 ((((sizeN level / 4096) : Nat) : Int))) kr (SX.u_quo _ _ (sizeN_lt level))
      refine SX.callGD 5 [0] A H (Even_calls p.ppn (sizeN level / 4096) w) kr kr kr kr (Or.inl kr) fun ac w A H => SX.takes [0] [(6, none), (7, none)] A H kr kd kr kr kr (Or.inl kr) fun ac A => ?_
      refine SX.doneD kr ?_ _
      refine XT (XW (Xr [0] (.bool (!(even p.ppn (sizeN level / 4096)))) A H (congrArg Value.bool ?_)))
      first | (simp [D.Pte.bad, h1, h2, h3, h4, h5, h4p]; done) | (rw [Bool.eq_iff_iff]; simp [D.Pte.bad, h1, h2, h3, h4, h5, h4p]; done) | (rw [Bool.eq_iff_iff]; simp [D.Pte.bad, h1, h2, h3, h4, h5, h4p]; omega)
  ·
   have A := A.rb 12 h2
   refine Xb [0, 0, 0, 0, 0, 0, 0, 0, 0, 0, 0] A H fun ac w A H => XD (XT ?_)
   refine Xs (((p.high : Nat) : Int) != 0) (fun h9 => ?_) fun h9 => ?_
   ·
    have A := A.rb 5 h9
    have h9p : p.high ≠ 0 := kp h9
    refine Xt A (XS (XR (Xb [0] A H fun ac w A H => XD (XT (XW (XQ (XU (Xr [0] (.bool true) A H (congrArg Value.bool ?_)))))))))
    first | (simp [D.Pte.bad, h1, h2, h9, h9p]; done) | (rw [Bool.eq_iff_iff]; simp [D.Pte.bad, h1, h2, h9, h9p]; done) | (rw [Bool.eq_iff_iff]; simp [D.Pte.bad, h1, h2, h9, h9p]; omega)
   ·
    have A := A.rb 5 h9
    have h9p : ¬ (p.high ≠ 0) := kp h9
    refine Xf A (XS (XR (Xb [0] A H fun ac w A H => Xc A H (Link_calls p w) fun ac w A H => Xb [0] A H fun ac w A H => XD (XT ?_))))
    refine Xs (p.link) (fun h10 => ?_) fun h10 => ?_
    ·
     have A := A.rb 23 h10
     refine Xt A (XS (XR (Xb [0, 0, 0] A H fun ac w A H => ?_)))
     refine Xs (level == 0) (fun h11 => ?_) fun h11 => ?_
     ·
      have A := A.rb 28 h11
      have h11p : level = 0 := kp h11
      refine Xb [0, 0, 0, 0, 0, 0, 0, 0, 0, 0, 0, 0] A H fun ac w A H => XD (XT (XW (XQ (XU (Xr [0] (.bool true) A H (congrArg Value.bool ?_))))))
      first | (simp [D.Pte.bad, h1, h2, h9, h10, h11, h9p, h11p]; done) | (rw [Bool.eq_iff_iff]; simp [D.Pte.bad, h1, h2, h9, h10, h11, h9p, h11p]; done) | (rw [Bool.eq_iff_iff]; simp [D.Pte.bad, h1, h2, h9, h10, h11, h9p, h11p]; omega)
     ·
      have A := A.rb 28 h11
      have h11p : ¬ (level = 0) := kp h11
      refine Xb [0, 0, 0, 0] A H fun ac w A H => ?_
      refine Xs (p.a) (fun h12 => ?_) fun h12 => ?_
      ·
       have A := A.rb 32 h12
       refine Xb [0, 0, 0, 0, 0, 0, 0, 0] A H fun ac w A H => XD (XT (XW (XQ (XU (Xr [0] (.bool true) A H (congrArg Value.bool ?_))))))
       first | (simp [D.Pte.bad, h1, h2, h9, h10, h11, h12, h9p, h11p]; done) | (rw [Bool.eq_iff_iff]; simp [D.Pte.bad, h1, h2, h9, h10, h11, h12, h9p, h11p]; done) | (rw [Bool.eq_iff_iff]; simp [D.Pte.bad, h1, h2, h9, h10, h11, h12, h9p, h11p]; omega)
      ·
       have A := A.rb 32 h12
       refine Xb [0, 0, 0, 0] A H fun ac w A H => ?_
       refine Xs (p.d) (fun h13 => ?_) fun h13 => ?_
       ·
        have A := A.rb 36 h13
        refine Xb [0, 0, 0, 0] A H fun ac w A H => XD (XT (XW (XQ (XU (Xr [0] (.bool true) A H (congrArg Value.bool ?_))))))
        first | (simp [D.Pte.bad, h1, h2, h9, h10, h11, h12, h13, h9p, h11p]; done) | (rw [Bool.eq_iff_iff]; simp [D.Pte.bad, h1, h2, h9, h10, h11, h12, h13, h9p, h11p]; done) | (rw [Bool.eq_iff_iff]; simp [D.Pte.bad, h1, h2, h9, h10, h11, h12, h13, h9p, h11p]; omega)
       ·
        have A := A.rb 36 h13
        refine Xb [0, 0, 0, 0] A H fun ac w A H => XD (XT (XW (XQ (XU (Xr [0] (.bool p.u) A H (congrArg Value.bool ?_))))))
        first | (simp [D.Pte.bad, h1, h2, h9, h10, h11, h12, h13, h9p, h11p]; done) | (rw [Bool.eq_iff_iff]; simp [D.Pte.bad, h1, h2, h9, h10, h11, h12, h13, h9p, h11p]; done) | (rw [Bool.eq_iff_iff]; simp [D.Pte.bad, h1, h2, h9, h10, h11, h12, h13, h9p, h11p]; omega)
    ·
     have A := A.rb 23 h10
     refine Xf A (XK (XN (XT (XS (SX.drawn 8 [0] kr A H fun w H => SX.takes [0] [(0, none), (1, some 0), (2, none)] A H kr kd kr kr kr (Or.inl kr) fun ac A => SX.callGD 3 [0] A H (Size_calls level w (hL.below H.below) (hl)) kr kr kr kr (Or.inl kr) fun ac w A H => SX.takes [0] [(4, none)] A H kr kd kr kr kr (Or.inl kr) fun ac A => ?_)))))
     have A := A.re 44 (.int .u64 (IntKind.u64.wrap (Int.tdiv ((sizeN level : Nat) : Int) 4096))) (.int .u64 ((((sizeN level / 4096) : Nat) : Int))) kr (SX.u_quo _ _ (sizeN_lt level))
     refine SX.callGD 5 [0] A H (Even_calls p.ppn (sizeN level / 4096) w) kr kr kr kr (Or.inl kr) fun ac w A H => SX.takes [0] [(6, none), (7, none)] A H kr kd kr kr kr (Or.inl kr) fun ac A => ?_
     refine SX.doneD kr ?_ _
     refine XT (XW (Xr [0] (.bool (!(even p.ppn (sizeN level / 4096)))) A H (congrArg Value.bool ?_)))
     first | (simp [D.Pte.bad, h1, h2, h9, h10, h9p]; done) | (rw [Bool.eq_iff_iff]; simp [D.Pte.bad, h1, h2, h9, h10, h9p]; done) | (rw [Bool.eq_iff_iff]; simp [D.Pte.bad, h1, h2, h9, h10, h9p]; omega)
theorem links_calls (p : D.Pte) (level : Int)  (w0 : World) (hL : Ld w0) (hl : level = 0 ∨ level = 1 ∨ level = 2) : SX.Gives Tryz.prog 114 #[(D.Pte.enc p), .int .i64 level] w0 (.bool (p.links level)) := by
 refine SX.enter (args := [(D.Pte.enc p), .int .i64 level]) 13 Tryz.func114 rfl kr fun ac A H => XS (XR (Xb [0, 0] A H fun ac w A H => XD (XT (XS (XR (Xb [0] A H fun ac w A H => Xc A H (Link_calls p w) fun ac w A H => Xb [0] A H fun ac w A H => ?_))))))
 refine Xs (p.link) (fun h1 => ?_) fun h1 => ?_
 ·
  have A := A.rb 7 h1
  refine Xb [0, 0] A H fun ac w A H => Xc A H (Bad_calls p level w (hL.below H.below) (hl)) fun ac w A H => Xb [0, 0, 0] A H fun ac w A H => XD (XT (XW (Xr [0] (.bool (!(p.bad level))) A H (congrArg Value.bool ?_))))
  first | (simp [D.Pte.links, h1]; done) | (rw [Bool.eq_iff_iff]; simp [D.Pte.links, h1]; done) | (rw [Bool.eq_iff_iff]; simp [D.Pte.links, h1]; omega)
 ·
  have A := A.rb 7 h1
  refine Xb [0, 0, 0, 0, 0, 0] A H fun ac w A H => XD (XT (XW (Xr [0] (.bool false) A H (congrArg Value.bool ?_))))
  first | (simp [D.Pte.links, h1]; done) | (rw [Bool.eq_iff_iff]; simp [D.Pte.links, h1]; done) | (rw [Bool.eq_iff_iff]; simp [D.Pte.links, h1]; omega)
theorem link_calls (f : Nat)  (w0 : World) : SX.Gives Tryz.prog 115 #[.int .u64 (((f : Nat) : Int))] w0 ((D.Pte.enc (D.Pte.of f))) := by
 refine SX.enter (args := [.int .u64 (((f : Nat) : Int))]) 5 Tryz.func115 rfl kr fun ac A H => XS (XR (Xb [0] A H fun ac w A H => XD (XT (XS (XR (Xb [0, 0, 0] A H fun ac w A H => XD (XT (XW (Xr [0] ((D.Pte.enc (⟨true, false, false, false, false, false, false, false, 0, f, 0⟩ : D.Pte))) A H ?_)))))))))
 rfl
theorem Make_calls (f : Nat) (p : D.Perm) (g : Bool)  (w0 : World) : SX.Gives Tryz.prog 53 #[.int .u64 (((f : Nat) : Int)), (D.Perm.enc p), .bool g] w0 ((D.Pte.enc (D.Pte.make f p g))) := by
 refine SX.enter (args := [.int .u64 (((f : Nat) : Int)), (D.Perm.enc p), .bool g]) 18 Tryz.func53 rfl kr fun ac A H => XS (XR (Xb [0, 0] A H fun ac w A H => XD (XT (XS (XR (Xb [0, 0, 0, 0, 0, 0, 0, 0, 0, 0, 0, 1] A H fun ac w A H => XD (XT (XW (Xr [1] ((D.Pte.enc (⟨true, p.r, p.w, p.x, p.u, g, false, false, 0, f, 0⟩ : D.Pte))) A H ?_)))))))))
 rfl
theorem Perm_calls (p : D.Pte)  (w0 : World) : SX.Gives Tryz.prog 168 #[(D.Pte.enc p)] w0 ((D.Perm.enc (D.Pte.perm p))) := by
 refine SX.enter (args := [(D.Pte.enc p)]) 12 Tryz.func168 rfl kr fun ac A H => XS (XR (Xb [0, 0] A H fun ac w A H => XD (XT (XS (XR (Xb [0, 0, 0, 0, 0, 0, 0, 0, 0, 1] A H fun ac w A H => XD (XT (XW (Xr [1] ((D.Perm.enc (⟨p.r, p.w, p.x, p.u⟩ : D.Perm))) A H ?_)))))))))
 rfl
theorem pMay_calls (p : D.Pte)  (w0 : World) (h1 : p.rsw < 18446744073709551616) (h2 : p.ppn < 18446744073709551616) (h3 : p.high < 18446744073709551616) : SX.Gives Tryz.prog 147 #[(D.Pte.enc p)] w0 (.bool p.may) := by
 refine SX.enter (args := [(D.Pte.enc p)]) 16 Tryz.func147 rfl kr fun ac A H => XS (XR (Xb [0, 0] A H fun ac w A H => XD (XT (XS (XR (Xb [0, 0] A H fun ac w A H => Xc A H (pfits_calls p.rsw 2 w ko ko) fun ac w A H => Xb [0] A H fun ac w A H => ?_))))))
 refine Xs (fits p.rsw 2) (fun h1 => ?_) fun h1 => ?_
 ·
  have A := A.rb 6 h1
  refine Xb [0, 0] A H fun ac w A H => Xc A H (pfits_calls p.ppn 44 w ko ko) fun ac w A H => Xb [0, 0] A H fun ac w A H => ?_
  refine Xs (fits p.ppn 44) (fun h2 => ?_) fun h2 => ?_
  ·
   have A := A.rb 11 h2
   refine Xb [0, 0] A H fun ac w A H => Xc A H (pfits_calls p.high 10 w ko ko) fun ac w A H => Xb [0, 0] A H fun ac w A H => XD (XT (XW (Xr [0] (.bool (fits p.high 10)) A H (congrArg Value.bool ?_))))
   first | (simp [D.Pte.may, h1, h2]; done) | (rw [Bool.eq_iff_iff]; simp [D.Pte.may, h1, h2]; done) | (rw [Bool.eq_iff_iff]; simp [D.Pte.may, h1, h2]; omega)
  ·
   have A := A.rb 11 h2
   refine Xb [0, 0, 0, 0, 0] A H fun ac w A H => XD (XT (XW (Xr [0] (.bool false) A H (congrArg Value.bool ?_))))
   first | (simp [D.Pte.may, h1, h2]; done) | (rw [Bool.eq_iff_iff]; simp [D.Pte.may, h1, h2]; done) | (rw [Bool.eq_iff_iff]; simp [D.Pte.may, h1, h2]; omega)
 ·
  have A := A.rb 6 h1
  refine Xb [0, 0, 0, 0, 0, 0, 0, 0, 0, 0] A H fun ac w A H => XD (XT (XW (Xr [0] (.bool false) A H (congrArg Value.bool ?_))))
  first | (simp [D.Pte.may, h1]; done) | (rw [Bool.eq_iff_iff]; simp [D.Pte.may, h1]; done) | (rw [Bool.eq_iff_iff]; simp [D.Pte.may, h1]; omega)
theorem permMay_calls (p : D.Perm)  (w0 : World) : SX.Gives Tryz.prog 51 #[(D.Perm.enc p)] w0 (.bool p.may) := by
 refine SX.enter (args := [(D.Perm.enc p)]) 18 Tryz.func51 rfl kr fun ac A H => XS (XR (Xb [0, 0] A H fun ac w A H => XD (XT (XS (XR (Xb [0, 0, 0] A H fun ac w A H => ?_))))))
 refine Xs (p.r) (fun h1 => ?_) fun h1 => ?_
 ·
  have A := A.rb 5 h1
  refine Xb [0, 0, 0, 0, 0, 0, 0] A H fun ac w A H => ?_
  have A := A.rb 12 h1
  refine Xb [0, 0, 0, 0, 0, 0] A H fun ac w A H => XD (XT (XW (Xr [0] (.bool true) A H (congrArg Value.bool ?_))))
  first | (simp [D.Perm.may, h1]; done) | (rw [Bool.eq_iff_iff]; simp [D.Perm.may, h1]; done) | (rw [Bool.eq_iff_iff]; simp [D.Perm.may, h1]; omega)
 ·
  have A := A.rb 5 h1
  refine Xb [0, 0, 0, 0] A H fun ac w A H => ?_
  refine Xs (p.x) (fun h3 => ?_) fun h3 => ?_
  ·
   have A := A.rb 9 h3
   refine Xb [0, 0, 0] A H fun ac w A H => ?_
   have A := A.rb 12 h1
   refine Xb [0, 0, 0, 0, 0, 0] A H fun ac w A H => XD (XT (XW (Xr [0] (.bool (!p.w)) A H (congrArg Value.bool ?_))))
   first | (simp [D.Perm.may, h1, h3]; done) | (rw [Bool.eq_iff_iff]; simp [D.Perm.may, h1, h3]; done) | (rw [Bool.eq_iff_iff]; simp [D.Perm.may, h1, h3]; omega)
  ·
   have A := A.rb 9 h3
   refine Xb [0, 0, 0, 0, 0, 0, 0, 0, 0] A H fun ac w A H => XD (XT (XW (Xr [0] (.bool false) A H (congrArg Value.bool ?_))))
   first | (simp [D.Perm.may, h1, h3]; done) | (rw [Bool.eq_iff_iff]; simp [D.Perm.may, h1, h3]; done) | (rw [Bool.eq_iff_iff]; simp [D.Perm.may, h1, h3]; omega)
theorem must_calls (so : Bool) (why : Int)  (w0 : World) : SX.Gives Tryz.prog 46 #[.bool so, .int .i64 why] w0 (.int .i64 (if so then 0 else why)) := by
 refine SX.enter (args := [.bool so, .int .i64 why]) 7 Tryz.func46 rfl kr fun ac A H => XS (XR (Xb [0] A H fun ac w A H => XD (XT (XS (XS (XR (Xb [0] A H fun ac w A H => XD (XT ?_))))))))
 refine Xs (so) (fun h1 => ?_) fun h1 => ?_
 ·
  have A := A.rb 5 h1
  refine Xt A (XS (XR (Xb [0] A H fun ac w A H => XD (XT (XW (XU (Xr [0] (.int .i64 0) A H ?_)))))))
  first | rfl | (simp [h1]; done) | (simp [h1]; omega)
 ·
  have A := A.rb 5 h1
  refine Xf A (XK (XT (XS (XR (Xb [0, 0] A H fun ac w A H => XD (XT (XW (Xr [0] (.int .i64 why) A H ?_))))))))
  first | rfl | (simp [h1]; done) | (simp [h1]; omega)
theorem kind_calls (n : Int)  (w0 : World) : SX.Gives Tryz.prog 132 #[.int .i64 n] w0 (.bool (decide (0 ≤ n) && decide (n ≤ 2))) := by
 refine SX.enter (args := [.int .i64 n]) 9 Tryz.func132 rfl kr fun ac A H => XS (XR (Xb [0] A H fun ac w A H => XD (XT (XS (XR (Xb [0, 0, 0] A H fun ac w A H => ?_))))))
 refine Xs (decide (n ≥ 0)) (fun h1 => ?_) fun h1 => ?_
 ·
  have A := A.rb 5 h1
  have h1p : n ≥ 0 := kp h1
  refine Xb [0, 0, 0, 0] A H fun ac w A H => XD (XT (XW (Xr [0] (.bool (decide (n ≤ 2))) A H (congrArg Value.bool ?_))))
  first | (simp [h1, h1p]; done) | (rw [Bool.eq_iff_iff]; simp [h1, h1p]; done) | (rw [Bool.eq_iff_iff]; simp [h1, h1p]; omega)
 ·
  have A := A.rb 5 h1
  have h1p : ¬ (n ≥ 0) := kp h1
  refine Xb [0, 0, 0, 0] A H fun ac w A H => XD (XT (XW (Xr [0] (.bool false) A H (congrArg Value.bool ?_))))
  first | (simp [h1, h1p]; done) | (rw [Bool.eq_iff_iff]; simp [h1, h1p]; done) | (rw [Bool.eq_iff_iff]; simp [h1, h1p]; omega)
theorem bSize_calls (n : Int)  (w0 : World) : SX.Gives Tryz.prog 133 #[.int .i64 n] w0 (.bool (decide (n = 1) || (decide (n = 2) || (decide (n = 4) || decide (n = 8))))) := by
 refine SX.enter (args := [.int .i64 n]) 17 Tryz.func133 rfl kr fun ac A H => XS (XR (Xb [0] A H fun ac w A H => XD (XT (XS (XR (Xb [0, 0, 0] A H fun ac w A H => ?_))))))
 refine Xs (n == 1) (fun h1 => ?_) fun h1 => ?_
 ·
  have A := A.rb 5 h1
  have h1p : n = 1 := kp h1
  refine Xb [0, 0, 0, 0, 0, 0, 0, 0, 0, 0, 0, 0] A H fun ac w A H => XD (XT (XW (Xr [0] (.bool true) A H (congrArg Value.bool ?_))))
  first | (simp [h1, h1p]; done) | (rw [Bool.eq_iff_iff]; simp [h1, h1p]; done) | (rw [Bool.eq_iff_iff]; simp [h1, h1p]; omega)
 ·
  have A := A.rb 5 h1
  have h1p : ¬ (n = 1) := kp h1
  refine Xb [0, 0, 0, 0] A H fun ac w A H => ?_
  refine Xs (n == 2) (fun h2 => ?_) fun h2 => ?_
  ·
   have A := A.rb 9 h2
   have h2p : n = 2 := kp h2
   refine Xb [0, 0, 0, 0, 0, 0, 0, 0] A H fun ac w A H => XD (XT (XW (Xr [0] (.bool true) A H (congrArg Value.bool ?_))))
   first | (simp [h1, h2, h1p, h2p]; done) | (rw [Bool.eq_iff_iff]; simp [h1, h2, h1p, h2p]; done) | (rw [Bool.eq_iff_iff]; simp [h1, h2, h1p, h2p]; omega)
  ·
   have A := A.rb 9 h2
   have h2p : ¬ (n = 2) := kp h2
   refine Xb [0, 0, 0, 0] A H fun ac w A H => ?_
   refine Xs (n == 4) (fun h3 => ?_) fun h3 => ?_
   ·
    have A := A.rb 13 h3
    have h3p : n = 4 := kp h3
    refine Xb [0, 0, 0, 0] A H fun ac w A H => XD (XT (XW (Xr [0] (.bool true) A H (congrArg Value.bool ?_))))
    first | (simp [h1, h2, h3, h1p, h2p, h3p]; done) | (rw [Bool.eq_iff_iff]; simp [h1, h2, h3, h1p, h2p, h3p]; done) | (rw [Bool.eq_iff_iff]; simp [h1, h2, h3, h1p, h2p, h3p]; omega)
   ·
    have A := A.rb 13 h3
    have h3p : ¬ (n = 4) := kp h3
    refine Xb [0, 0, 0, 0] A H fun ac w A H => XD (XT (XW (Xr [0] (.bool (n == 8)) A H (congrArg Value.bool ?_))))
    first | (simp [h1, h2, h3, h1p, h2p, h3p]; done) | (rw [Bool.eq_iff_iff]; simp [h1, h2, h3, h1p, h2p, h3p]; done) | (rw [Bool.eq_iff_iff]; simp [h1, h2, h3, h1p, h2p, h3p]; omega)
theorem On_calls (s : D.Satp)  (w0 : World) : SX.Gives Tryz.prog 182 #[(D.Satp.enc s)] w0 (.bool (decide (s.mode = 8))) := by
 refine SX.enter (args := [(D.Satp.enc s)]) 6 Tryz.func182 rfl kr fun ac A H => XS (XR (Xb [0, 0] A H fun ac w A H => XD (XT (XS (XR (Xb [0, 0, 0, 0] A H fun ac w A H => XD (XT (XW (Xr [0] (.bool (((s.mode : Nat) : Int) == 8)) A H (congrArg Value.bool ?_))))))))))
 first | (simp []; done) | (rw [Bool.eq_iff_iff]; simp []; done) | (rw [Bool.eq_iff_iff]; simp []; omega)
theorem pages_calls (level : Int)  (w0 : World) (hL : Ld w0) (hl : level = 0 ∨ level = 1 ∨ level = 2) : SX.Gives Tryz.prog 231 #[.int .i64 level] w0 (.int .u64 (((sizeN level / 4096 : Nat) : Int))) := by
 refine SX.enter (args := [.int .i64 level]) 6 Tryz.func231 rfl kr fun ac A H => XS (XR (Xb [0] A H fun ac w A H => XD (XT (XS (XR (Xb [0] A H fun ac w A H => Xc A H (Size_calls level w (hL.below H.below) (hl)) fun ac w A H => Xb [0] A H fun ac w A H => ?_))))))
 have A := A.re 5 (.int .u64 (IntKind.u64.wrap (Int.tdiv ((sizeN level : Nat) : Int) 4096))) (.int .u64 ((((sizeN level / 4096) : Nat) : Int))) kr (SX.u_quo _ _ (sizeN_lt level))
 refine Xb [0] A H fun ac w A H => XD (XT (XW (Xr [0] (.int .u64 ((((sizeN level / 4096) : Nat) : Int))) A H ?_)))
 rfl
theorem Way_calls (h : D.Hart) (kind : Int)  {no : List Nat} (s1 : SX.Sl) (w0 : World) (hno : ∀ b ∈ no, b < w0.heap.size) (hs1 : (D.tlbF s1 h.tlb.sets).P w0 no) : SX.Gives Tryz.prog 213 #[(D.Hart.enc h s1), .int .i64 kind] w0 ((D.Way.enc (⟨kind, h.priv, h.sum, h.mxr⟩ : D.Way))) := by
 refine SX.enterN (args := [(D.Hart.enc h s1), .int .i64 kind]) (hno := hno) 13 Tryz.func213 rfl kr fun ac A H => ?_
 have H := H.known (D.tlbF s1 h.tlb.sets) hs1
 refine XS (XR (Xb [0, 0] A H fun ac w A H => XD (XT (XS (XR (Xb [0, 0, 0, 0, 0, 0, 0, 0, 1] A H fun ac w A H => XD (XT (XW (Xr [1] ((D.Way.enc (⟨kind, h.priv, h.sum, h.mxr⟩ : D.Way))) A H ?_)))))))))
 rfl
theorem bitB_raw (x i : Nat) : ((((Bits.getN x i 1 : Nat) : Int)) == 1) = D.bitB x i := by rw [Bool.eq_iff_iff]; simp [D.bitB]; omega
theorem Get1_calls (i : Nat) (x : Nat) (w0 : World) (bx : Nat) (Tx : TypeId) (fx : Nat × Nat) (hbx : w0.heap[bx]? = some (.cells #[.int .u64 (((x : Nat) : Int))] Tx fx)) (hx : x < 18446744073709551616) (hi : i < 9223372036854775808) : SX.Gives Tryz.prog 196 #[.int .i64 (((i : Nat) : Int)), .pointer (some ⟨bx, 0, none⟩)] w0 (.bool (D.bitB x i)) := by
 refine SX.enter (args := [.int .i64 (((i : Nat) : Int)), .pointer (some ⟨bx, 0, none⟩)]) 8 Tryz.func196 rfl kr fun ac A H => ?_
 have H := H.fb_old hbx
 refine XS (XR (Xb [0] A H fun ac w A H => XD (XT (XS (XR (Xb [1000, 0] A H fun ac w A H => Xc A H (Get_calls x i 1 w ko ko ko) fun ac w A H => Xb [0, 0] A H fun ac w A H => XD (XT (XW (Xr [0] (.bool (((Bits.getN x i 1 : Nat) : Int) == 1)) A H ?_)))))))))
 exact congrArg Value.bool (bitB_raw x i)
theorem PGet_calls (x : Nat)  (w0 : World) (hx : x < 18446744073709551616) : SX.Gives Tryz.prog 156 #[.int .u64 (((x : Nat) : Int))] w0 ((D.Pte.enc (D.Pte.get x))) := by
 refine SX.enter (args := [.int .u64 (((x : Nat) : Int))]) 28 Tryz.func156 rfl kr fun ac A H => XS (XR (Xb [0, 0] A H fun ac w A H => XD (XT (XS (XR (Xb [0, 0] A H fun ac w A H => XD (XT (XS (SX.drawn 24 [0] kr A H fun w H => SX.takes [0] [(0, none), (2, none), (4, none), (6, none), (8, none), (10, none), (12, none), (14, none), (16, some 0), (18, some 0), (20, some 0)] A H kr kd kr kr kr (Or.inl kr) fun ac A => SX.callGD 1 [0] A H (Get1_calls 0 x w (SX.boxB _ 0) 27 (0, 0) (SX.boxHas H 0 #[.int .u64 (((x : Nat) : Int))] 27 kr kr) ko ko) kr kr kr kr (Or.inl kr) fun ac w A H => SX.callGD 3 [0] A H (Get1_calls 1 x w (SX.boxB _ 0) 27 (0, 0) (SX.boxHas H 0 #[.int .u64 (((x : Nat) : Int))] 27 kr kr) ko ko) kr kr kr kr (Or.inl kr) fun ac w A H => SX.callGD 5 [0] A H (Get1_calls 2 x w (SX.boxB _ 0) 27 (0, 0) (SX.boxHas H 0 #[.int .u64 (((x : Nat) : Int))] 27 kr kr) ko ko) kr kr kr kr (Or.inl kr) fun ac w A H => SX.callGD 7 [0] A H (Get1_calls 3 x w (SX.boxB _ 0) 27 (0, 0) (SX.boxHas H 0 #[.int .u64 (((x : Nat) : Int))] 27 kr kr) ko ko) kr kr kr kr (Or.inl kr) fun ac w A H => SX.callGD 9 [0] A H (Get1_calls 4 x w (SX.boxB _ 0) 27 (0, 0) (SX.boxHas H 0 #[.int .u64 (((x : Nat) : Int))] 27 kr kr) ko ko) kr kr kr kr (Or.inl kr) fun ac w A H => SX.callGD 11 [0] A H (Get1_calls 5 x w (SX.boxB _ 0) 27 (0, 0) (SX.boxHas H 0 #[.int .u64 (((x : Nat) : Int))] 27 kr kr) ko ko) kr kr kr kr (Or.inl kr) fun ac w A H => SX.callGD 13 [0] A H (Get1_calls 6 x w (SX.boxB _ 0) 27 (0, 0) (SX.boxHas H 0 #[.int .u64 (((x : Nat) : Int))] 27 kr kr) ko ko) kr kr kr kr (Or.inl kr) fun ac w A H => SX.callGD 15 [0] A H (Get1_calls 7 x w (SX.boxB _ 0) 27 (0, 0) (SX.boxHas H 0 #[.int .u64 (((x : Nat) : Int))] 27 kr kr) ko ko) kr kr kr kr (Or.inl kr) fun ac w A H => SX.callGD 17 [0] A H (Get_calls x 8 2 w ko ko ko) kr kr kr kr (Or.inl kr) fun ac w A H => SX.callGD 19 [0] A H (Get_calls x 10 44 w ko ko ko) kr kr kr kr (Or.inl kr) fun ac w A H => SX.callGD 21 [0] A H (Get_calls x 54 10 w ko ko ko) kr kr kr kr (Or.inl kr) fun ac w A H => SX.takes [0] [(22, none)] A H kr kd kr kr kr (Or.inl kr) fun ac A => SX.act 23 1 [0] A H kr kr kr (Or.inl kr) fun ac w A H => ?_)))))))))
 refine SX.doneD kr ?_ _
 refine XT (XW (Xr [1] ((D.Pte.enc (⟨D.bitB x 0, D.bitB x 1, D.bitB x 2, D.bitB x 3, D.bitB x 4, D.bitB x 5, D.bitB x 6, D.bitB x 7, Bits.getN x 8 2, Bits.getN x 10 44, Bits.getN x 54 10⟩ : D.Pte))) A H ?_))
 rfl
end Go.Proofs.YtfkmcdkncmapmaaGreatDoor
set_option linter.unusedVariables false
set_option linter.unusedSimpArgs false
namespace Go.Proofs.YtfkmcdkncmapmaaGreatDoor
open Go
/-- The place of the lowest set bit; 64 where there is none. -/
def ctz (n : Nat) : Nat := ((List.range 64).find? fun i => n.testBit i).getD 64
theorem ctz_none (n : Nat) (h : ∀ i < 64, n.testBit i = false) : ctz n = 64 := by
 unfold ctz
 rw [List.find?_eq_none.2]
 · rfl
 · intro i hi
   rw [h i (List.mem_range.1 hi)]
   decide
theorem ctz_some (n : Nat) (i : Nat) (hi : i < 64) (hb : n.testBit i = true) (hlow : ∀ j < i, n.testBit j = false) : ctz n = i := by
 unfold ctz
 have : (List.range 64).find? (fun i => n.testBit i) = some i := by
  rw [List.find?_range_eq_some]
  exact ⟨hb, List.mem_range.2 hi, fun j hj => by rw [hlow j hj]; rfl⟩
 rw [this]
 rfl
theorem ctz_cases (n : Nat) : (ctz n = 64 ∧ ∀ i < 64, n.testBit i = false) ∨ (ctz n < 64 ∧ n.testBit (ctz n) = true ∧ ∀ j < ctz n, n.testBit j = false) := by
 unfold ctz
 cases h : (List.range 64).find? (fun i => n.testBit i) with
 | none =>
  refine .inl ⟨rfl, fun i hi => ?_⟩
  have := List.find?_eq_none.1 h i (List.mem_range.2 hi)
  simpa using this
 | some i =>
  rw [List.find?_range_eq_some] at h
  refine .inr ⟨List.mem_range.1 h.2.1, h.1, fun j hj => ?_⟩
  have := h.2.2 j hj
  simpa using this
theorem ctz_zero : ctz 0 = 64 := ctz_none 0 fun i _ => by simp
theorem ctz_pos (n : Nat) (h : n < 18446744073709551616) (h0 : n ≠ 0) : ctz n < 64 := by
 rcases ctz_cases n with ⟨_, hz⟩ | ⟨h1, _⟩
 · exact absurd (Bits.eq_of_bits fun i => by
     by_cases hi : i < 64
     · rw [hz i hi]; simp
     · rw [Bits.bit_high n i h ko]; simp) h0
 · exact h1
/-- A number and its negative have the lowest set bit in common, and no other. -/
theorem and_neg (n : Nat) (h : n < 18446744073709551616) (h0 : n ≠ 0) : n &&& (18446744073709551616 - n) = 2 ^ ctz n := by
 have ht := ctz_pos n h h0
 rcases ctz_cases n with ⟨e, _⟩ | ⟨_, hb, hl⟩
 · omega
 · generalize ctz n = t at ht hb hl
   have hmod : n % 2 ^ (t + 1) = 2 ^ t := by
    refine Bits.eq_of_bits fun j => ?_
    rw [Nat.testBit_mod_two_pow, Nat.testBit_two_pow]
    by_cases hj : j < t
    · rw [hl j hj]; simp; omega
    · by_cases hj2 : j = t
      · subst hj2; simp [hb]
      · simp [show ¬ j < t + 1 by omega, show ¬ t = j by omega]
   have hn : n = 2 ^ (t + 1) * (n / 2 ^ (t + 1)) + 2 ^ t := by
    have := Nat.div_add_mod n (2 ^ (t + 1))
    omega
   generalize hm : n / 2 ^ (t + 1) = m at hn
   have h64 : (18446744073709551616 : Nat) = 2 ^ (t + 1) * 2 ^ (63 - t) := by
    rw [← Bits.pow64, ← Nat.pow_add]; congr 1; omega
   have hp := Nat.two_pow_pos (t + 1)
   have hpt : 2 ^ (t + 1) = 2 ^ t + 2 ^ t := by rw [Nat.pow_succ]; omega
   have hmlt : m < 2 ^ (63 - t) := by
    have : 2 ^ (t + 1) * m < 2 ^ (t + 1) * 2 ^ (63 - t) := by omega
    exact Nat.lt_of_mul_lt_mul_left this
   have hneg : 18446744073709551616 - n = 2 ^ (t + 1) * (2 ^ (63 - t) - (m + 1)) + 2 ^ t := by
    have e1 : 2 ^ (t + 1) * (2 ^ (63 - t) - (m + 1)) = 2 ^ (t + 1) * 2 ^ (63 - t) - 2 ^ (t + 1) * (m + 1) := Nat.mul_sub _ _ _
    have e2 : 2 ^ (t + 1) * (m + 1) = 2 ^ (t + 1) * m + 2 ^ (t + 1) := Nat.mul_succ _ _
    have e3 : 2 ^ (t + 1) * (m + 1) ≤ 2 ^ (t + 1) * 2 ^ (63 - t) := Nat.mul_le_mul_left _ hmlt
    omega
   have hlt : 2 ^ t < 2 ^ (t + 1) := Nat.pow_lt_pow_right kc ko
   refine Bits.eq_of_bits fun j => ?_
   rw [hneg, hn, Nat.testBit_and, Nat.testBit_two_pow_mul_add _ hlt, Nat.testBit_two_pow_mul_add _ hlt]
   by_cases hj : j < t + 1
   · simp [hj]
   · simp only [hj, if_false]
     rw [Nat.testBit_two_pow_sub_succ hmlt, Nat.testBit_two_pow]
     simp only [show ¬ t = j by omega, decide_false]
     cases m.testBit (j - (t + 1)) <;> simp
theorem tab_ok : ∀ t : Nat, t < 64 → (2 ^ t * 285870213051353865 % 18446744073709551616 / 2 ^ (min 58 64)) < 64 ∧ deb[2 ^ t * 285870213051353865 % 18446744073709551616 / 2 ^ (min 58 64)]? = some t := by decide +kernel
theorem neg_raw (x : Nat) (h0 : x ≠ 0) (hx : x < 18446744073709551616) : Value.int .u64 (IntKind.u64.wrap (0 - (x : Int))) = .int .u64 ((18446744073709551616 - x : Nat) : Int) := by
 rw [show IntKind.u64.wrap (0 - (x : Int)) = ((18446744073709551616 - x : Nat) : Int) by rw [IntKind.wrap_u64]; omega]
theorem low_raw (x : Nat) (h0 : x ≠ 0) (hx : x < 18446744073709551616) : Value.int .u64 (IntKind.u64.wrap (((BitVec.ofInt IntKind.u64.bits (x : Int) &&& BitVec.ofInt IntKind.u64.bits ((18446744073709551616 - x : Nat) : Int)).toNat : Nat) : Int)) = .int .u64 ((2 ^ ctz x : Nat) : Int) := by
 rw [Bits.u_and _ _ hx ko, and_neg x hx h0]
theorem deb_cell {w : World} (h : Ld w) (t : Nat) (ht : t < 64) : w.cell? ⟨1, 0 + 2 ^ t * 285870213051353865 % 18446744073709551616 / 2 ^ (min 58 64) * 1, none⟩ = some (.int .u8 (t : Int)) := by
 obtain ⟨T, fr, h1⟩ := h.deb
 obtain ⟨hk, hd⟩ := tab_ok t ht
 generalize 2 ^ t * 285870213051353865 % 18446744073709551616 / 2 ^ (min 58 64) = g at hk hd
 have : (List.map (fun n : Nat => Value.int .u8 (n : Int)) deb).toArray[0 + g * 1]? = some (.int .u8 (t : Int)) := by
  rw [List.getElem?_toArray, Nat.zero_add, Nat.mul_one, List.getElem?_map, hd]; rfl
 simp only [World.cell?, h1]; simpa using this
end Go.Proofs.YtfkmcdkncmapmaaGreatDoor
