/- Walks of functions, written by the session's own program wip/sx/sxgen.py; Lean checks them. -/
import Derived.Test.YtfkmcdkncmapmaaGreatDoorY02
import Derived.Test.YtfkmcdkncmapmaaGreatDoorY08
import Derived.Test.YtfkmcdkncmapmaaGreatDoorProg
import Derived.Test.YtfkmcdkncmapmaaGreatDoorY16
set_option linter.unusedVariables false
set_option linter.unusedSimpArgs false
set_option maxRecDepth 100000
set_option maxHeartbeats 1000000
namespace Go.Proofs.YtfkmcdkncmapmaaGreatDoor
open Go Go.RowKit
def rowN (l0 l1 l2 l3 l4 l5 l6 l7 : Bool) : Nat := Bits.setN (Bits.setN (Bits.setN (Bits.setN (Bits.setN (Bits.setN (Bits.setN (Bits.setN 0 0 1 l0.toNat) 1 1 l1.toNat) 2 1 l2.toNat) 3 1 l3.toNat) 4 1 l4.toNat) 5 1 l5.toNat) 6 1 l6.toNat) 7 1 l7.toNat
theorem rowN_lt (l0 l1 l2 l3 l4 l5 l6 l7 : Bool) : rowN l0 l1 l2 l3 l4 l5 l6 l7 < 18446744073709551616 := setN_lt _ _ _ _
def D.Pte.put (p : D.Pte) : Nat := Bits.setN (Bits.setN (Bits.setN (rowN p.v p.r p.w p.x p.u p.g p.a p.d) 8 2 p.rsw) 10 44 p.ppn) 54 10 p.high
theorem row_calls  (l0 l1 l2 l3 l4 l5 l6 l7 : Bool) (w0 : World) (bl : Nat) (Tl : TypeId) (fl : Nat × Nat) (hbl : w0.heap[bl]? = some (.cells #[.bool l0, .bool l1, .bool l2, .bool l3, .bool l4, .bool l5, .bool l6, .bool l7] Tl fl)) : SX.Gives Tryz.prog 148 #[.slice (some ⟨bl, 0, none⟩) 8 8] w0 (.int .u64 (((rowN l0 l1 l2 l3 l4 l5 l6 l7 : Nat) : Int))) := by
 refine SX.enter (args := [.slice (some ⟨bl, 0, none⟩) 8 8]) 20 Tryz.func148 rfl kr fun ac A H => ?_
 have H := H.fb_old hbl
 refine XS (XR (Xb [0] A H fun ac w A H => XD (XT (XS (XR (Xb [0] A H fun ac w A H => XD (XT (XS (XS (XR (Xb [0, 0, 0] A H fun ac w A H => XD (XT (XB (wp_loop_rounds 9 (XO (XS (XR (Xb [0] A H fun ac w A H => XD (XT (XS (Xt A (XK (XT (XS (XB (XS (XR (Xb [0, 0, 1000, 0, 0] A H fun ac w A H => XD (XT (XR (Xb [0, 0, 0] A H fun ac w A H => Xc A H (Bool_calls l0 w) fun ac w A H => Xc A H (Set_calls 0 0 1 l0.toNat w (by first | exact setN_lt _ _ _ _ | decide) ko ko) fun ac w A H => Xb [0] A H fun ac w A H => XD (XN (XT (XR (Xb [0, 0] A H fun ac w A H => XD (XT (XO (XS (XR (Xb [0] A H fun ac w A H => XD (XT (XS (Xt A (XK (XT (XS (XB (XS (XR (Xb [0, 0, 1000, 0, 0] A H fun ac w A H => XD (XT (XR (Xb [0, 0, 0] A H fun ac w A H => Xc A H (Bool_calls l1 w) fun ac w A H => Xc A H (Set_calls (Bits.setN 0 0 1 l0.toNat) 1 1 l1.toNat w (by first | exact setN_lt _ _ _ _ | decide) ko ko) fun ac w A H => Xb [0] A H fun ac w A H => XD (XN (XT (XR (Xb [0, 0] A H fun ac w A H => XD (XT (XO (XS (XR (Xb [0] A H fun ac w A H => XD (XT (XS (Xt A (XK (XT (XS (XB (XS (XR (Xb [0, 0, 1000, 0, 0] A H fun ac w A H => XD (XT (XR (Xb [0, 0, 0] A H fun ac w A H => Xc A H (Bool_calls l2 w) fun ac w A H => Xc A H (Set_calls (Bits.setN (Bits.setN 0 0 1 l0.toNat) 1 1 l1.toNat) 2 1 l2.toNat w (by first | exact setN_lt _ _ _ _ | decide) ko ko) fun ac w A H => Xb [0] A H fun ac w A H => XD (XN (XT (XR (Xb [0, 0] A H fun ac w A H => XD (XT (XO (XS (XR (Xb [0] A H fun ac w A H => XD (XT (XS (Xt A (XK (XT (XS (XB (XS (XR (Xb [0, 0, 1000, 0, 0] A H fun ac w A H => XD (XT (XR (Xb [0, 0, 0] A H fun ac w A H => Xc A H (Bool_calls l3 w) fun ac w A H => Xc A H (Set_calls (Bits.setN (Bits.setN (Bits.setN 0 0 1 l0.toNat) 1 1 l1.toNat) 2 1 l2.toNat) 3 1 l3.toNat w (by first | exact setN_lt _ _ _ _ | decide) ko ko) fun ac w A H => Xb [0] A H fun ac w A H => XD (XN (XT (XR (Xb [0, 0] A H fun ac w A H => XD (XT (XO (XS (XR (Xb [0] A H fun ac w A H => XD (XT (XS (Xt A (XK (XT (XS (XB (XS (XR (Xb [0, 0, 1000, 0, 0] A H fun ac w A H => XD (XT (XR (Xb [0, 0, 0] A H fun ac w A H => Xc A H (Bool_calls l4 w) fun ac w A H => Xc A H (Set_calls (Bits.setN (Bits.setN (Bits.setN (Bits.setN 0 0 1 l0.toNat) 1 1 l1.toNat) 2 1 l2.toNat) 3 1 l3.toNat) 4 1 l4.toNat w (by first | exact setN_lt _ _ _ _ | decide) ko ko) fun ac w A H => Xb [0] A H fun ac w A H => XD (XN (XT (XR (Xb [0, 0] A H fun ac w A H => XD (XT (XO (XS (XR (Xb [0] A H fun ac w A H => XD (XT (XS (Xt A (XK (XT (XS (XB (XS (XR (Xb [0, 0, 1000, 0, 0] A H fun ac w A H => XD (XT (XR (Xb [0, 0, 0] A H fun ac w A H => Xc A H (Bool_calls l5 w) fun ac w A H => Xc A H (Set_calls (Bits.setN (Bits.setN (Bits.setN (Bits.setN (Bits.setN 0 0 1 l0.toNat) 1 1 l1.toNat) 2 1 l2.toNat) 3 1 l3.toNat) 4 1 l4.toNat) 5 1 l5.toNat w (by first | exact setN_lt _ _ _ _ | decide) ko ko) fun ac w A H => Xb [0] A H fun ac w A H => XD (XN (XT (XR (Xb [0, 0] A H fun ac w A H => XD (XT (XO (XS (XR (Xb [0] A H fun ac w A H => XD (XT (XS (Xt A (XK (XT (XS (XB (XS (XR (Xb [0, 0, 1000, 0, 0] A H fun ac w A H => XD (XT (XR (Xb [0, 0, 0] A H fun ac w A H => Xc A H (Bool_calls l6 w) fun ac w A H => Xc A H (Set_calls (Bits.setN (Bits.setN (Bits.setN (Bits.setN (Bits.setN (Bits.setN 0 0 1 l0.toNat) 1 1 l1.toNat) 2 1 l2.toNat) 3 1 l3.toNat) 4 1 l4.toNat) 5 1 l5.toNat) 6 1 l6.toNat w (by first | exact setN_lt _ _ _ _ | decide) ko ko) fun ac w A H => Xb [0] A H fun ac w A H => XD (XN (XT (XR (Xb [0, 0] A H fun ac w A H => XD (XT (XO (XS (XR (Xb [0] A H fun ac w A H => XD (XT (XS (Xt A (XK (XT (XS (XB (XS (XR (Xb [0, 0, 1000, 0, 0] A H fun ac w A H => XD (XT (XR (Xb [0, 0, 0] A H fun ac w A H => Xc A H (Bool_calls l7 w) fun ac w A H => Xc A H (Set_calls (Bits.setN (Bits.setN (Bits.setN (Bits.setN (Bits.setN (Bits.setN (Bits.setN 0 0 1 l0.toNat) 1 1 l1.toNat) 2 1 l2.toNat) 3 1 l3.toNat) 4 1 l4.toNat) 5 1 l5.toNat) 6 1 l6.toNat) 7 1 l7.toNat w (by first | exact setN_lt _ _ _ _ | decide) ko ko) fun ac w A H => Xb [0] A H fun ac w A H => XD (XN (XT (XR (Xb [0, 0] A H fun ac w A H => XD (XT (XO (XS (XR (Xb [0] A H fun ac w A H => XD (XT (XS (Xf A (XI (XX (XX (XE (XT (XS (XR (Xb [0, 0] A H fun ac w A H => XD (XT (XW (Xr [0] (.int .u64 (((Bits.setN (Bits.setN (Bits.setN (Bits.setN (Bits.setN (Bits.setN (Bits.setN (Bits.setN 0 0 1 l0.toNat) 1 1 l1.toNat) 2 1 l2.toNat) 3 1 l3.toNat) 4 1 l4.toNat) 5 1 l5.toNat) 6 1 l6.toNat) 7 1 l7.toNat : Nat) : Int))) A H ?_))))))))))))))))))))))))))))))))))))))))))))))))))))))))))))))))))))))))))))))))))))))))))))))))))))))))))))))))))))))))))))))))))))))))))))))))))))))))))))))))))))))))))))))))))))))))))))))))))))))))))))))))
 rfl
theorem Put_calls (p : D.Pte)  (w0 : World) (h1 : p.rsw < 18446744073709551616) (h2 : p.ppn < 18446744073709551616) (h3 : p.high < 18446744073709551616) : SX.Gives Tryz.prog 103 #[(D.Pte.enc p)] w0 ((.tuple #[.int .u64 (((if p.may then p.put else 0 : Nat) : Int)), .int .i64 (if p.may then (0 : Int) else 1)])) := by
 refine SX.enter (args := [(D.Pte.enc p)]) 38 Tryz.func103 rfl kr fun ac A H => XS (XR (Xb [0, 0, 0] A H fun ac w A H => XD (XT (XS (XS (XR (Xb [0] A H fun ac w A H => Xc A H (pMay_calls p w ko ko ko) fun ac w A H => Xb [0] A H fun ac w A H => XD (XT ?_))))))))
 refine Xs (p.may) (fun h1 => ?_) fun h1 => ?_
 ·
  have A := A.re 7 (.bool (!p.may)) (.bool false) kr (by rw [h1]; rfl)
  refine Xf A (XK (XT (XS (XR (Xb [0, 0, 0, 0, 0, 0, 0, 0, 0, 0, 0, 0, 0, 0, 0, 0, 0] A H fun ac w A H => Xc A H (row_calls p.v p.r p.w p.x p.u p.g p.a p.d w (SX.boxB _ 1) 4 (0, 0) (SX.boxHas H 1 #[.bool p.v, .bool p.r, .bool p.w, .bool p.x, .bool p.u, .bool p.g, .bool p.a, .bool p.d] 4 kr kr)) fun ac w A H => Xb [0] A H fun ac w A H => XD (XT (XS (XR (Xb [0, 0, 0] A H fun ac w A H => Xc A H (Set_calls (rowN p.v p.r p.w p.x p.u p.g p.a p.d) 8 2 p.rsw w (by first | exact setN_lt _ _ _ _ | exact rowN_lt _ _ _ _ _ _ _ _) ko ko) fun ac w A H => Xb [0] A H fun ac w A H => XD (XT (XS (XR (Xb [0, 0, 0] A H fun ac w A H => Xc A H (Set_calls (Bits.setN (rowN p.v p.r p.w p.x p.u p.g p.a p.d) 8 2 p.rsw) 10 44 p.ppn w (by first | exact setN_lt _ _ _ _ | exact rowN_lt _ _ _ _ _ _ _ _) ko ko) fun ac w A H => Xb [0] A H fun ac w A H => XD (XT (XS (XR (Xb [0, 0, 0] A H fun ac w A H => Xc A H (Set_calls (Bits.setN (Bits.setN (rowN p.v p.r p.w p.x p.u p.g p.a p.d) 8 2 p.rsw) 10 44 p.ppn) 54 10 p.high w (by first | exact setN_lt _ _ _ _ | exact rowN_lt _ _ _ _ _ _ _ _) ko ko) fun ac w A H => Xb [0, 0] A H fun ac w A H => XD (XT (XW (Xr [0, 0] ((.tuple #[.int .u64 (((Bits.setN (Bits.setN (Bits.setN (rowN p.v p.r p.w p.x p.u p.g p.a p.d) 8 2 p.rsw) 10 44 p.ppn) 54 10 p.high : Nat) : Int)), .int .i64 0])) A H ?_))))))))))))))))))))
  rw [h1]; rfl
 ·
  have A := A.re 7 (.bool (!p.may)) (.bool true) kr (by rw [h1]; rfl)
  refine Xt A (XS (XR (Xb [0, 0] A H fun ac w A H => XD (XT (XW (XU (Xr [0, 0] ((.tuple #[.int .u64 0, .int .i64 1])) A H ?_)))))))
  rw [h1]; rfl
end Go.Proofs.YtfkmcdkncmapmaaGreatDoor
set_option linter.unusedVariables false
set_option linter.unusedSimpArgs false
set_option maxRecDepth 100000
set_option maxHeartbeats 1000000
namespace Go.Proofs.YtfkmcdkncmapmaaGreatDoor
open Go Go.RowKit
def sz8 (n : Int) : Bool := decide (n = 1) || (decide (n = 2) || (decide (n = 4) || decide (n = 8)))
theorem sz8_pos {n : Int} (h : (decide (n = 1) || (decide (n = 2) || (decide (n = 4) || decide (n = 8)))) = true) : n = 1 ∨ n = 2 ∨ n = 4 ∨ n = 8 := by simpa using h
namespace D
def wrongN (m : Mem) (k : Nat) (size : Int) : Int := if sz8 size = false then 1 else if even k size.toNat = false then 2 else if m.size ≤ k then 3 else 0
def storeM (m : Mem) (k : Nat) (size : Int) (v : Nat) : Mem := if wrongN m k size = 0 then ⟨m.size, putF m.f (k / 8) (Bits.setN (wordN m k) (k % 8 * 8) (size * 8).toNat v)⟩ else m
def loadM (m : Mem) (k : Nat) (size : Int) : Nat := if wrongN m k size = 0 then Bits.getN (wordN m k) (k % 8 * 8) (size * 8).toNat else 0
def clrM (m : Mem) (fr : Nat) : Mem := ⟨m.size, clrF m.f (fr * 4096 / 8) ((fr * 4096 + 4096) / 8)⟩
def Pool.next (p : Pool) : Nat := p.base + ctz p.free
def freshM (m : Mem) (p : Pool) : Mem := if p.free = 0 then m else clrM m p.next
def withM (m : Mem) (s : Spot) (addr : Nat) (p : Pte) : Mem := storeM m (placeN s.table (indexN addr s.level)) 8 (if p.may then p.put else 0)
structure Pte.Lt (p : Pte) : Prop where
 rsw : p.rsw < 18446744073709551616
 ppn : p.ppn < 18446744073709551616
 high : p.high < 18446744073709551616
theorem wrong_sz {m : Mem} {k : Nat} {size : Int} (h : wrongN m k size = 0) : size = 1 ∨ size = 2 ∨ size = 4 ∨ size = 8 := by
 unfold wrongN at h
 split at h
 · cases h
 · rename_i hs; have hs : sz8 size = true := by simpa using hs
   unfold sz8 at hs; exact sz8_pos hs
theorem wrong_lt {m : Mem} {k : Nat} {size : Int} (h : wrongN m k size = 0) : k < m.size := by
 unfold wrongN at h
 split at h
 · cases h
 · split at h
   · cases h
   · split at h
     · cases h
     · omega
theorem wrong_8 (m : Mem) (k : Nat) (h : even k 8 = true) (h2 : k < m.size) : wrongN m k 8 = 0 := by
 unfold wrongN
 rw [if_neg kc, if_neg (by simp [h]), if_neg ko]
theorem wordN_lt {m : Mem} {l : List Cell} (h : MemOk l m.f) (k : Nat) : wordN m k < 18446744073709551616 := by unfold wordN; split; exact h.lt _; decide
end D
theorem wrong_calls (m : D.Mem) (k : Nat) (size : Int)  {no : List Nat} (s1 : SX.Sl) (w0 : World) (hno : ∀ b ∈ no, b < w0.heap.size) (hs1 : (D.memF s1 m.f).P w0 no) : SX.Gives Tryz.prog 149 #[(D.Mem.enc m s1), .int .u64 (((k : Nat) : Int)), .int .i64 size] w0 (.int .i64 (D.wrongN m k size)) := by
 refine SX.enterN (args := [(D.Mem.enc m s1), .int .u64 (((k : Nat) : Int)), .int .i64 size]) (hno := hno) 22 Tryz.func149 rfl kr fun ac A H => ?_
 have H := H.known (D.memF s1 m.f) hs1
 refine XS (XR (Xb [0, 0] A H fun ac w A H => XD (XT (XS (XB (XS (XR (Xb [0] A H fun ac w A H => Xc A H (bSize_calls size w) fun ac w A H => Xb [0, 0] A H fun ac w A H => XD (XT ?_)))))))))
 refine Xs (decide (size = 1) || (decide (size = 2) || (decide (size = 4) || decide (size = 8)))) (fun h1 => ?_) fun h1 => ?_
 ·
  have A := A.re 7 (.bool (!(decide (size = 1) || (decide (size = 2) || (decide (size = 4) || decide (size = 8)))))) (.bool false) kr (by rw [h1]; rfl)
  refine Xf A (XS (XR (Xb [0, 0, 0] A H fun ac w A H => ?_)))
  have A := A.re 14 (.int .u64 (IntKind.u64.wrap (size))) (.int .u64 (((size.toNat : Nat) : Int))) kr (SX.u_toNat _ (by have := sz8_pos h1; omega) (by have := sz8_pos h1; omega))
  refine Xc A H (Even_calls k size.toNat w) fun ac w A H => Xb [0, 0] A H fun ac w A H => XD (XT ?_)
  refine Xs (even k size.toNat) (fun h2 => ?_) fun h2 => ?_
  ·
   have A := A.re 11 (.bool (!(even k size.toNat))) (.bool false) kr (by rw [h2]; rfl)
   refine Xf A (XS (XR (Xb [0, 0, 0, 0, 0] A H fun ac w A H => XD (XT ?_))))
   refine Xs (decide (((k : Nat) : Int) ≥ ((m.size : Nat) : Int))) (fun h3 => ?_) fun h3 => ?_
   ·
    have A := A.rb 17 h3
    have h3p : k ≥ m.size := kp h3
    refine Xt A (XS (XR (Xb [0] A H fun ac w A H => XD (XT (XW (XQ (XU (Xr [0] (.int .i64 3) A H ?_))))))))
    have e1 := h1; change sz8 size = _ at e1
    refine congrArg (Value.int .i64) ?_
    simp [D.wrongN, e1, h2]
    try omega
   ·
    have A := A.rb 17 h3
    have h3p : ¬ (k ≥ m.size) := kp h3
    refine Xf A (XK (XN (XT (XS (XR (Xb [0] A H fun ac w A H => XD (XT (XW (Xr [0] (.int .i64 0) A H ?_)))))))))
    have e1 := h1; change sz8 size = _ at e1
    refine congrArg (Value.int .i64) ?_
    simp [D.wrongN, e1, h2]
    try omega
  ·
   have A := A.re 11 (.bool (!(even k size.toNat))) (.bool true) kr (by rw [h2]; rfl)
   refine Xt A (XS (XR (Xb [0] A H fun ac w A H => XD (XT (XW (XQ (XU (Xr [0] (.int .i64 2) A H ?_))))))))
   have e1 := h1; change sz8 size = _ at e1
   refine congrArg (Value.int .i64) ?_
   simp [D.wrongN, e1, h2]
   try omega
 ·
  have A := A.re 7 (.bool (!(decide (size = 1) || (decide (size = 2) || (decide (size = 4) || decide (size = 8)))))) (.bool true) kr (by rw [h1]; rfl)
  refine Xt A (XS (XR (Xb [0] A H fun ac w A H => XD (XT (XW (XQ (XU (Xr [0] (.int .i64 1) A H ?_))))))))
  have e1 := h1; change sz8 size = _ at e1
  refine congrArg (Value.int .i64) ?_
  simp [D.wrongN, e1]
  try omega
theorem Store_calls (m : D.Mem) (k : Nat) (size : Int) (v : Nat)  {no : List Nat} (s1 : SX.Sl) (w0 : World) (hno : ∀ b ∈ no, b < w0.heap.size) (hs1 : (D.memF s1 m.f).P w0 no) (hk : k < 18446744073709551616) (hms : m.size ≤ 1099511627776) : SX.Rets Tryz.prog 104 #[(D.Mem.enc m s1), .int .u64 (((k : Nat) : Int)), .int .i64 size, .int .u64 (((v : Nat) : Int))] w0 (fun r_ w => ∃ y1 : SX.Sl, r_ = (.tuple #[(D.Mem.enc (D.storeM m k size v) y1), .int .i64 (D.wrongN m k size)]) ∧ (D.memF y1 ((D.storeM m k size v).f)).P w no) := by
 refine SX.enterN (args := [(D.Mem.enc m s1), .int .u64 (((k : Nat) : Int)), .int .i64 size, .int .u64 (((v : Nat) : Int))]) (hno := hno) 34 Tryz.func104 rfl kr fun ac A H => ?_
 have H := H.known (D.memF s1 m.f) hs1
 obtain ⟨l, hl, hmo⟩ := hs1
 have hwl := D.wordN_lt hmo k
 refine XS (XR (Xb [0, 0, 0] A H fun ac w A H => XD (XT (XS (XS (XR (Xb [0, 0, 0] A H fun ac w A H => Xc A H (wrong_calls m k size s1 w H.nos_lt (H.fact' 0 (D.memF s1 m.f) kr)) fun ac w A H => Xb [0] A H fun ac w A H => XD (XT (XS (XR (Xb [0, 0] A H fun ac w A H => XD (XT ?_))))))))))))
 refine Xs ((D.wrongN m k size) != 0) (fun h1 => ?_) fun h1 => ?_
 ·
  have A := A.rb 16 h1
  have h1p : D.wrongN m k size ≠ 0 := kp h1
  refine Xt A (XS (XR (Xb [0, 0, 1, 0] A H fun ac w A H => XD (XT (XW (XU (Xr [1, 0] ((.tuple #[(D.Mem.enc m s1), .int .i64 (D.wrongN m k size)])) A H ?_)))))))
  refine ⟨s1, ?_, (by rw [D.storeM, if_neg ko]; exact (H.out 0 (D.memF s1 m.f) kr))⟩
  rw [D.storeM, if_neg ko] <;> rfl
 ·
  have A := A.rb 16 h1
  have h1p : ¬ (D.wrongN m k size ≠ 0) := kp h1
  refine Xf A (XK (XT (XS (SX.drawn 17 [0] kr A H fun w H => SX.takes [0] [(0, some 0), (1, none), (2, none)] A H kr kd kr kr kr (Or.inl kr) fun ac A => ?_))))
  have A := A.re 21 (.int .u64 (IntKind.u64.wrap (Int.tdiv ((k : Nat) : Int) 8))) (.int .u64 ((((k / 8) : Nat) : Int))) kr (SX.u_quo k 8 ko)
  refine SX.takes [0] [(3, some 0), (4, none), (6, none), (7, none)] A H kr kd kr kr kr (Or.inl kr) fun ac A => ?_
  have A := A.re 26 (.int .u64 (Int.tmod ((k : Nat) : Int) 8)) (.int .u64 ((((k % 8) : Nat) : Int))) kr (SX.u_rem k 8)
  refine SX.takes [0] [(8, none)] A H kr kd kr kr kr (Or.inl kr) fun ac A => ?_
  have A := A.re 27 (.int .i64 (IntKind.i64.wrap ((((k % 8) : Nat) : Int)))) (.int .i64 ((((k % 8) : Nat) : Int))) kr (SX.i_in _ ko ko)
  refine SX.takes [0] [(9, none)] A H kr kd kr kr kr (Or.inl kr) fun ac A => ?_
  have A := A.re 28 (.int .i64 (IntKind.i64.wrap ((((k % 8) : Nat) : Int) * 8))) (.int .i64 ((((k % 8 * 8) : Nat) : Int))) kr (SX.i_in _ ko ko)
  refine SX.takes [0] [(10, none), (11, none)] A H kr kd kr kr kr (Or.inl kr) fun ac A => ?_
  have A := A.re 30 (.int .i64 (IntKind.i64.wrap (size * 8))) (.int .i64 ((((size * 8).toNat : Nat) : Int))) kr (by have := D.wrong_sz (show D.wrongN m k size = 0 by omega); rw [SX.i_in _ ko ko, Int.toNat_of_nonneg ko])
  refine SX.takes [0] [(12, none)] A H kr kd kr kr kr (Or.inl kr) fun ac A => SX.callGD 5 [0] A H (Word_calls m k s1 w H.nos_lt (H.fact' 0 (D.memF s1 m.f) kr) ko) kr kr kr kr (Or.inl kr) fun ac w A H => SX.callGD 13 [0] A H (Set_calls (D.wordN m k) (k % 8 * 8) ((size * 8).toNat) v w ko ko (by have := D.wrong_sz (show D.wrongN m k size = 0 by omega); omega)) kr kr kr kr (Or.inl kr) fun ac w A H => SX.callD 14 [0] A H (put_calls m (k / 8) (Bits.setN (D.wordN m k) (k % 8 * 8) ((size * 8).toNat) v) s1 w H.nos_lt (H.fact' 0 (D.memF s1 m.f) kr) (by have := D.wrong_lt (show D.wrongN m k size = 0 by omega); omega) (setN_lt _ _ _ _)) kr kr kr kr (Or.inl kr) ?_
  rintro _ ac w ⟨z2, rfl, hz2⟩ A H
  have H := H.learn (D.memF z2 ((⟨m.size, D.putF m.f (k / 8) (Bits.setN (D.wordN m k) (k % 8 * 8) ((size * 8).toNat) v)⟩ : D.Mem).f)) hz2
  refine SX.act 15 1 [0] A H kr kr kr (Or.inl kr) (k := 1) fun ac w A H => SX.takes [0] [(16, none)] A H kr kd kr kr kr (Or.inl kr) (k := 1) fun ac A => ?_
  refine SX.doneD kr ?_ _
  refine XT (XW (Xr [1, 0] ((.tuple #[(D.Mem.enc (⟨m.size, D.putF m.f (k / 8) (Bits.setN (D.wordN m k) (k % 8 * 8) ((size * 8).toNat) v)⟩ : D.Mem) z2), .int .i64 0])) A H ?_))
  refine ⟨z2, ?_, (by rw [D.storeM, if_pos ko]; exact (H.out 0 (D.memF z2 ((⟨m.size, D.putF m.f (k / 8) (Bits.setN (D.wordN m k) (k % 8 * 8) ((size * 8).toNat) v)⟩ : D.Mem).f)) kr))⟩
  rw [D.storeM, if_pos ko, show D.wrongN m k size = 0 by omega] <;> rfl
theorem Load_calls (m : D.Mem) (k : Nat) (size : Int)  {no : List Nat} (s1 : SX.Sl) (w0 : World) (hno : ∀ b ∈ no, b < w0.heap.size) (hs1 : (D.memF s1 m.f).P w0 no) (hk : k < 18446744073709551616) : SX.Gives Tryz.prog 216 #[(D.Mem.enc m s1), .int .u64 (((k : Nat) : Int)), .int .i64 size] w0 ((.tuple #[.int .u64 (((D.loadM m k size : Nat) : Int)), .int .i64 (D.wrongN m k size)])) := by
 refine SX.enterN (args := [(D.Mem.enc m s1), .int .u64 (((k : Nat) : Int)), .int .i64 size]) (hno := hno) 26 Tryz.func216 rfl kr fun ac A H => ?_
 have H := H.known (D.memF s1 m.f) hs1
 obtain ⟨l, hl, hmo⟩ := hs1
 have hwl := D.wordN_lt hmo k
 refine XS (XR (Xb [0, 0, 0] A H fun ac w A H => XD (XT (XS (XS (XR (Xb [0, 0, 0] A H fun ac w A H => Xc A H (wrong_calls m k size s1 w H.nos_lt (H.fact' 0 (D.memF s1 m.f) kr)) fun ac w A H => Xb [0] A H fun ac w A H => XD (XT (XS (XR (Xb [0, 0] A H fun ac w A H => XD (XT ?_))))))))))))
 refine Xs ((D.wrongN m k size) != 0) (fun h1 => ?_) fun h1 => ?_
 ·
  have A := A.rb 14 h1
  have h1p : D.wrongN m k size ≠ 0 := kp h1
  refine Xt A (XS (XR (Xb [0, 0, 0] A H fun ac w A H => XD (XT (XW (XU (Xr [0, 0] ((.tuple #[.int .u64 0, .int .i64 (D.wrongN m k size)])) A H ?_)))))))
  rw [D.loadM, if_neg ko] <;> first | rfl | (rw [show D.wrongN m k size = 0 by omega])
 ·
  have A := A.rb 14 h1
  have h1p : ¬ (D.wrongN m k size ≠ 0) := kp h1
  refine Xf A (XK (XT (XS (XR (Xb [0, 0] A H fun ac w A H => Xc A H (Word_calls m k s1 w H.nos_lt (H.fact' 0 (D.memF s1 m.f) kr) ko) fun ac w A H => Xb [0, 0] A H fun ac w A H => ?_)))))
  have A := A.re 20 (.int .u64 (Int.tmod ((k : Nat) : Int) 8)) (.int .u64 ((((k % 8) : Nat) : Int))) kr (SX.u_rem k 8)
  refine Xb [0] A H fun ac w A H => ?_
  have A := A.re 21 (.int .i64 (IntKind.i64.wrap ((((k % 8) : Nat) : Int)))) (.int .i64 ((((k % 8) : Nat) : Int))) kr (SX.i_in _ ko ko)
  refine Xb [0] A H fun ac w A H => ?_
  have A := A.re 22 (.int .i64 (IntKind.i64.wrap ((((k % 8) : Nat) : Int) * 8))) (.int .i64 ((((k % 8 * 8) : Nat) : Int))) kr (SX.i_in _ ko ko)
  refine Xb [0, 0] A H fun ac w A H => ?_
  have A := A.re 24 (.int .i64 (IntKind.i64.wrap (size * 8))) (.int .i64 ((((size * 8).toNat : Nat) : Int))) kr (by have := D.wrong_sz (show D.wrongN m k size = 0 by omega); rw [SX.i_in _ ko ko, Int.toNat_of_nonneg ko])
  refine Xc A H (Get_calls (D.wordN m k) (k % 8 * 8) ((size * 8).toNat) w ko ko (by have := D.wrong_sz (show D.wrongN m k size = 0 by omega); omega)) fun ac w A H => Xb [0, 0] A H fun ac w A H => XD (XT (XW (Xr [0, 0] ((.tuple #[.int .u64 (((Bits.getN (D.wordN m k) (k % 8 * 8) ((size * 8).toNat) : Nat) : Int)), .int .i64 0])) A H ?_)))
  rw [D.loadM, if_pos ko] <;> first | rfl | (rw [show D.wrongN m k size = 0 by omega])
theorem Fresh_calls (m : D.Mem) (p : D.Pool)  {no : List Nat} (s1 : SX.Sl) (w0 : World) (hno : ∀ b ∈ no, b < w0.heap.size) (hs1 : (D.memF s1 m.f).P w0 no) (hL : Ld w0) (hp : p.Ok) : SX.Rets Tryz.prog 25 #[(D.Mem.enc m s1), (D.Pool.enc p)] w0 (fun r_ w => ∃ y1 : SX.Sl, r_ = (.tuple #[(D.Mem.enc (D.freshM m p) y1), (D.Pool.enc p.take), .int .u64 (((if p.free = 0 then 0 else p.next : Nat) : Int)), .int .i64 (if p.free = 0 then (8 : Int) else 0)]) ∧ (D.memF y1 ((D.freshM m p).f)).P w no) := by
 refine SX.enterN (args := [(D.Mem.enc m s1), (D.Pool.enc p)]) (hno := hno) 27 Tryz.func25 rfl kr fun ac A H => ?_
 have H := H.known (D.memF s1 m.f) hs1
 have hp1 := hp.base
 have hp2 := hp.many
 have hp3 := hp.free
 have hcz : p.free ≠ 0 → ctz p.free < 64 := ctz_pos p.free hp3
 have hfr : (if p.free = 0 then 0 else p.base + ctz p.free) ≤ 524352 := by split <;> omega
 have hz0 : p.free = 0 → D.freshM m p = m := fun h => by rw [D.freshM, if_pos h]
 have hz1 : ¬ p.free = 0 → D.freshM m p = D.clrM m p.next := fun h => by rw [D.freshM, if_neg h]
 refine XS (XR (Xb [0, 0, 0, 0, 0, 0] A H fun ac w A H => XD (XT (XS (XR (Xb [1] A H fun ac w A H => Xc A H (pTake_calls p w (hL.below H.below) (hp)) fun ac w A H => Xb [0, 0, 0, 0, 0, 4, 0, 0] A H fun ac w A H => XD (XT (XS (XS (XR (Xb [0, 0] A H fun ac w A H => XD (XT ?_))))))))))))
 refine Xs ((if p.free = 0 then (8 : Int) else 0) != 0) (fun h1 => ?_) fun h1 => ?_
 ·
  have A := A.rb 18 h1
  have h1p : (if p.free = 0 then (8 : Int) else 0) ≠ 0 := kp h1
  refine Xt A (XS (SX.drawn 7 [0, 1] kr A H fun w H => SX.takes [0, 1] [(0, some 0), (1, some 1), (2, none)] A H kr kd kr kr kr (Or.inl kr) fun ac A => SX.act 3 2 [0, 1] A H kr kr kr (Or.inl kr) fun ac w A H => SX.act 4 3 [0, 1] A H kr kr kr (Or.inl kr) fun ac w A H => SX.takes [0, 1] [(5, none), (6, none)] A H kr kd kr kr kr (Or.inl kr) fun ac A => ?_))
  refine SX.doneD kr ?_ _
  refine XT (XW (XU (Xr [2, 3, 0, 0] ((.tuple #[(D.Mem.enc m s1), (D.Pool.enc p), .int .u64 0, .int .i64 (if p.free = 0 then (8 : Int) else 0)])) A H ?_)))
  refine ⟨s1, ?_, (by rw [hz0 (by have := h1p; revert this; split <;> simp_all)]; exact (H.out 0 (D.memF s1 m.f) kr))⟩
  have hz : p.free = 0 := by have := h1p; revert this; split <;> simp_all
  simp only [hz0 hz, if_pos hz, D.Pool.take] <;> rfl
 ·
  have A := A.rb 18 h1
  have h1p : ¬ ((if p.free = 0 then (8 : Int) else 0) ≠ 0) := kp h1
  refine Xf A (XK (XT (XS (SX.drawn 9 [0, 4] kr A H fun w H => SX.takes [0, 4] [(0, some 0), (1, none), (3, some 1), (4, none)] A H kr kd kr kr kr (Or.inl kr) fun ac A => SX.callD 2 [0, 4] A H (tclear_calls m (if p.free = 0 then 0 else p.base + ctz p.free) s1 w H.nos_lt (H.fact' 0 (D.memF s1 m.f) kr) ko) kr kr kr kr (Or.inl kr) ?_))))
  rintro _ ac w ⟨z2, rfl, hz2⟩ A H
  have H := H.learn (D.memF z2 ((⟨m.size, D.clrF m.f ((if p.free = 0 then 0 else p.base + ctz p.free) * 4096 / 8) (((if p.free = 0 then 0 else p.base + ctz p.free) * 4096 + 4096) / 8)⟩ : D.Mem).f)) hz2
  refine SX.act 5 2 [0, 4] A H kr kr kr (Or.inl kr) (k := 1) fun ac w A H => SX.act 6 3 [0, 4] A H kr kr kr (Or.inl kr) (k := 1) fun ac w A H => SX.takes [0, 4] [(7, none), (8, none)] A H kr kd kr kr kr (Or.inl kr) (k := 1) fun ac A => ?_
  refine SX.doneD kr ?_ _
  refine XT (XW (Xr [2, 3, 0, 0] ((.tuple #[(D.Mem.enc (⟨m.size, D.clrF m.f ((if p.free = 0 then 0 else p.base + ctz p.free) * 4096 / 8) (((if p.free = 0 then 0 else p.base + ctz p.free) * 4096 + 4096) / 8)⟩ : D.Mem) z2), (D.Pool.enc p.take), .int .u64 (((if p.free = 0 then 0 else p.base + ctz p.free : Nat) : Int)), .int .i64 0])) A H ?_))
  refine ⟨z2, ?_, (by rw [hz1 (by have := h1p; revert this; split <;> simp_all), show D.clrM m p.next = D.clrM m (if p.free = 0 then 0 else p.base + ctz p.free) from by rw [if_neg (by have := h1p; revert this; split <;> simp_all)]; rfl]; exact (H.out 0 (D.memF z2 ((⟨m.size, D.clrF m.f ((if p.free = 0 then 0 else p.base + ctz p.free) * 4096 / 8) (((if p.free = 0 then 0 else p.base + ctz p.free) * 4096 + 4096) / 8)⟩ : D.Mem).f)) kr))⟩
  have hz : ¬ p.free = 0 := by have := h1p; revert this; split <;> simp_all
  simp only [hz1 hz, if_neg hz] <;> rfl
theorem With_calls (m : D.Mem) (s : D.Spot) (addr : Nat) (p : D.Pte)  {no : List Nat} (s1 : SX.Sl) (w0 : World) (hno : ∀ b ∈ no, b < w0.heap.size) (hs1 : (D.memF s1 m.f).P w0 no) (haddr : addr < 18446744073709551616) (hl : s.level = 0 ∨ s.level = 1 ∨ s.level = 2) (ht : s.table < 4503599627370495) (hp : p.Lt) (hms : m.size ≤ 1099511627776) : SX.Rets Tryz.prog 35 #[(D.Mem.enc m s1), (D.Spot.enc s), .int .u64 (((addr : Nat) : Int)), (D.Pte.enc p)] w0 (fun r_ w => ∃ y1 : SX.Sl, r_ = (D.Mem.enc (D.withM m s addr p) y1) ∧ (D.memF y1 ((D.withM m s addr p).f)).P w no) := by
 refine SX.enterN (args := [(D.Mem.enc m s1), (D.Spot.enc s), .int .u64 (((addr : Nat) : Int)), (D.Pte.enc p)]) (hno := hno) 32 Tryz.func35 rfl kr fun ac A H => ?_
 have H := H.known (D.memF s1 m.f) hs1
 have hix := indexN_lt addr s.level
 have hp1 := hp.rsw
 have hp2 := hp.ppn
 have hp3 := hp.high
 refine XS (XR (Xb [0, 0, 0, 0] A H fun ac w A H => XD (XT (XS (XR (Xb [2] A H fun ac w A H => Xc A H (Put_calls p w ko ko ko) fun ac w A H => Xb [0, 0, 0, 0, 0] A H fun ac w A H => XD (XT (XS (SX.drawn 16 [0, 1] kr A H fun w H => SX.takes [0, 1] [(0, some 0), (1, none), (2, some 1), (3, none), (4, none), (5, some 1), (8, none)] A H kr kd kr kr kr (Or.inl kr) fun ac A => ?_)))))))))
 let B0 := SX.bb H 0
 let B1 := SX.bb H 1
 let B2 := SX.bb H 2
 let B3 := SX.bb H 3
 refine SX.joinD (fun ac w => ∃ B4 : Nat, ∃ z2 : SX.Sl, SX.Agrees 32 ac [(8, .pointer (some ⟨B3, 0, none⟩)), (11, .pointer (some ⟨B4, 0, none⟩)), (29, (D.Mem.enc (D.storeM m (placeN s.table (indexN addr s.level)) 8 (if p.may then p.put else 0)) z2)), (30, .int .i64 (D.wrongN m (placeN s.table (indexN addr s.level)) 8))] ∧ SX.Own w0 w [(B0, .cells (D.Mem.cs m s1) 30 (0, 0)), (B1, .cells (D.Spot.cs s) 109 (0, 0)), (B2, .cells (D.Pte.cs p) 107 (0, 0)), (B3, .cells #[.int .u64 0, (.slice none 0 0)] 30 (0, 0)), (B4, .cells #[.int .u64 0, (.slice none 0 0)] 30 (0, 0))] ⟨[(D.memF z2 ((D.storeM m (placeN s.table (indexN addr s.level)) 8 (if p.may then p.put else 0)).f)), (D.memF s1 m.f)], (SX.roOf H).fb, (SX.roOf H).no⟩) 2 (SX.msk 16 16383) ?_ (fun hJ1 => ?_)
 · rintro ac w ⟨B4, z2, A, H⟩
   refine SX.act 14 4 [0, 1] A H kr kr kr (Or.inl kr) (k := 1) fun ac w A H => SX.takes [0, 1] [(15, none)] A H kr kd kr kr kr (Or.inl kr) (k := 1) fun ac A => ?_
   refine SX.doneD kr ?_ _
   refine XT (XS (XR (Xb [4, 3] A H fun ac w A H => XD (XT (XW (Xr [3] ((D.Mem.enc (D.storeM m (placeN s.table (indexN addr s.level)) 8 (if p.may then p.put else 0)) z2)) A H ?_))))))
   refine ⟨z2, ?_, (H.out 0 (D.memF z2 ((D.withM m s addr p).f)) kr)⟩
   rfl
 refine SX.joinD (fun ac w => ∃ B4 : Nat, SX.Agrees 32 ac [(8, .pointer (some ⟨B3, 0, none⟩)), (11, .pointer (some ⟨B4, 0, none⟩)), (19, (D.Mem.enc m s1)), (26, .int .u64 (((placeN s.table (indexN addr s.level) : Nat) : Int))), (27, .int .u64 (((if p.may then p.put else 0 : Nat) : Int)))] ∧ SX.Own w0 w [(B0, .cells (D.Mem.cs m s1) 30 (0, 0)), (B1, .cells (D.Spot.cs s) 109 (0, 0)), (B2, .cells (D.Pte.cs p) 107 (0, 0)), (B3, .cells #[.int .u64 0, (.slice none 0 0)] 30 (0, 0)), (B4, .cells #[.int .u64 0, (.slice none 0 0)] 30 (0, 0))] ⟨[(D.memF s1 m.f)], (SX.roOf H).fb, (SX.roOf H).no⟩) 6 (SX.msk 16 8703) ?_ (fun hJ2 => ?_)
 · rintro ac w ⟨B4, A, H⟩
   refine SX.callD 9 [0, 1] A H (Store_calls m (placeN s.table (indexN addr s.level)) 8 (if p.may then p.put else 0) s1 w H.nos_lt (H.fact' 0 (D.memF s1 m.f) kr) (by unfold placeN; omega) (by first | assumption | omega)) kr kr kr kr (Or.inl kr) ?_
   rintro _ ac w ⟨z4, rfl, hz4⟩ A H
   have H := H.learn (D.memF z4 ((D.storeM m (placeN s.table (indexN addr s.level)) 8 (if p.may then p.put else 0)).f)) hz4
   refine SX.takes [0, 1] [(10, none), (11, none), (12, none)] A H kr kd kr kr kr (Or.inl kr) (k := 1) fun ac A => ?_
   exact SX.useD hJ1 kr kr ⟨SX.bb H 4, z4, A.sub _ kr, (H.pick [0, 1, 2, 3, 4] _ kc kr).ro_pick [0, 1] _ kr⟩
 refine SX.joinD (fun ac w => ∃ B4 : Nat, SX.Agrees 32 ac [(8, .pointer (some ⟨B3, 0, none⟩)), (11, .pointer (some ⟨B4, 0, none⟩)), (19, (D.Mem.enc m s1)), (21, .int .u64 (((s.table : Nat) : Int))), (25, .int .i64 (((indexN addr s.level : Nat) : Int))), (27, .int .u64 (((if p.may then p.put else 0 : Nat) : Int)))] ∧ SX.Own w0 w [(B0, .cells (D.Mem.cs m s1) 30 (0, 0)), (B1, .cells (D.Spot.cs s) 109 (0, 0)), (B2, .cells (D.Pte.cs p) 107 (0, 0)), (B3, .cells #[.int .u64 0, (.slice none 0 0)] 30 (0, 0)), (B4, .cells #[.int .u64 0, (.slice none 0 0)] 30 (0, 0))] ⟨[(D.memF s1 m.f)], (SX.roOf H).fb, (SX.roOf H).no⟩) 7 (SX.msk 16 8575) ?_ (fun hJ3 => ?_)
 · rintro ac w ⟨B4, A, H⟩
   refine SX.callGD 7 [0, 1] A H (place_calls s.table (indexN addr s.level) w ko ko) kr kr kr kr (Or.inl kr) fun ac w A H => ?_
   exact SX.useD hJ2 kr kr ⟨SX.bb H 4, A.sub _ kr, (H.pick [0, 1, 2, 3, 4] _ kc kr).ro_pick [0] _ kr⟩
 refine SX.many 6 [13] kr kr (SX.allC_cons ?_ (SX.allC_cons ?_ SX.allC_nil))
 ·
  refine SX.callGD_op 6 [0, 1] A H (Index_calls addr s.level w ko ko) kr kr (Or.inl kr) fun ac w A H => ?_
  refine SX.many 7 [13] kr kr (SX.allC_cons ?_ (SX.allC_cons ?_ SX.allC_nil))
  ·
   refine SX.callGD_op 7 [0, 1] A H (place_calls s.table (indexN addr s.level) w ko ko) kr kr (Or.inl kr) fun ac w A H => ?_
   refine SX.many 9 [13] kr kr (SX.allC_cons ?_ (SX.allC_cons ?_ SX.allC_nil))
   ·
    refine SX.callD_op 9 [0, 1] A H (Store_calls m (placeN s.table (indexN addr s.level)) 8 (if p.may then p.put else 0) s1 w H.nos_lt (H.fact' 0 (D.memF s1 m.f) kr) (by unfold placeN; omega) (by first | assumption | omega)) kr kr (Or.inl kr) ?_
    rintro _ ac w ⟨z5, rfl, hz5⟩ A H
    have H := H.learn (D.memF z5 ((D.storeM m (placeN s.table (indexN addr s.level)) 8 (if p.may then p.put else 0)).f)) hz5
    refine SX.takes [0, 1] [(10, none), (11, none), (12, none)] A H kr kd kr kr kr (Or.inl kr) (k := 1) fun ac A => SX.act 13 0 [0, 1] A H kr kr kr (Or.inl kr) (k := 1) fun ac w A H => ?_
    exact SX.useD hJ1 kr kr ⟨SX.bb H 4, z5, A.sub _ kr, (H.pick [0, 1, 2, 3, 4] _ kc kr).ro_pick [0, 1] _ kr⟩
   ·
    refine SX.act_op 13 0 [0, 1] A H kr (Or.inl kr) fun ac w A H => ?_
    exact SX.useD hJ2 kr kr ⟨SX.bb H 4, A.sub _ kr, (H.pick [0, 1, 2, 3, 4] _ kc kr).ro_pick [0] _ kr⟩
  ·
   refine SX.act_op 13 0 [0, 1] A H kr (Or.inl kr) fun ac w A H => ?_
   exact SX.useD hJ3 kr kr ⟨SX.bb H 4, A.sub _ kr, (H.pick [0, 1, 2, 3, 4] _ kc kr).ro_pick [0] _ kr⟩
 ·
  refine SX.act_op 13 0 [0, 1] A H kr (Or.inl kr) fun ac w A H => SX.callGD 6 [0, 1] A H (Index_calls addr s.level w ko ko) kr kr kr kr (Or.inl kr) fun ac w A H => ?_
  exact SX.useD hJ3 kr kr ⟨SX.bb H 4, A.sub _ kr, (H.pick [0, 1, 2, 3, 4] _ kc kr).ro_pick [0] _ kr⟩
end Go.Proofs.YtfkmcdkncmapmaaGreatDoor
set_option linter.unusedVariables false
set_option linter.unusedSimpArgs false
set_option maxRecDepth 100000
set_option maxHeartbeats 1000000
namespace Go.Proofs.YtfkmcdkncmapmaaGreatDoor
open Go Go.RowKit
theorem flat_set {α : Type} (f : α → List Value) (sz : Nat) (hsz : 0 < sz) (hf : ∀ x, (f x).length = sz) {l : List α} {i : Nat} (hi : i < l.length) (x : α) {zs x2 : List Value} (hx2 : x2.length = (l.flatMap f ++ zs).length)
 (hg : ∀ t, x2[t]? = if t < i * sz then (l.flatMap f ++ zs)[t]? else if t < i * sz + (f x).length then (f x)[t - i * sz]? else (l.flatMap f ++ zs)[t]?) :
 x2.take (l.length * sz) = (l.set i x).flatMap f := by
 have hfl := SX.flat_len f sz hf l
 apply List.ext_getElem?
 intro t
 by_cases ht : t < l.length * sz
 · rw [List.getElem?_take_of_lt ht, hg]
   obtain ⟨j, d, hd, rfl⟩ : ∃ j d, d < sz ∧ t = j * sz + d := ⟨t / sz, t % sz, Nat.mod_lt _ hsz, (by rw [Nat.mul_comm]; exact (Nat.div_add_mod t sz).symm)⟩
   have hj : j < l.length := by
    rcases Nat.lt_or_ge j l.length with h | h
    · exact h
    · have := Nat.mul_le_mul_right sz h; omega
   have hold : (l.flatMap f ++ zs)[j * sz + d]? = (f l[j])[d]? := by
    rw [List.getElem?_append_left (by rw [hfl]; exact ht)]
    exact SX.flat_get f sz hf l j d l[j] (List.getElem?_eq_getElem hj) hd
   have hnew : ∀ e, (l.set i x)[j]? = some e → ((l.set i x).flatMap f)[j * sz + d]? = (f e)[d]? := fun e he => SX.flat_get f sz hf _ j d e he hd
   rcases Nat.lt_trichotomy j i with hji | rfl | hji
   · rw [hnew l[j] (by rw [List.getElem?_set_ne ko, List.getElem?_eq_getElem hj])]
     have : j * sz + sz ≤ i * sz := by rw [← Nat.succ_mul]; exact Nat.mul_le_mul_right _ hji
     rw [if_pos ko, hold]
   · rw [hnew x (by rw [List.getElem?_set_self hj]), if_neg ko, if_pos (by rw [hf]; omega)]; congr 1; omega
   · rw [hnew l[j] (by rw [List.getElem?_set_ne ko, List.getElem?_eq_getElem hj])]
     have : i * sz + sz ≤ j * sz := by rw [← Nat.succ_mul]; exact Nat.mul_le_mul_right _ hji
     rw [if_neg ko, if_neg (by rw [hf]; omega), hold]
 · rw [List.getElem?_eq_none (by rw [List.length_take]; omega), List.getElem?_eq_none (by rw [SX.flat_len f sz hf, List.length_set]; omega)]
theorem sets_one (l : List D.Set) : ∀ u ∈ l.flatMap D.Set.cells, u.oneCell' = true := by
 intro u hu
 obtain ⟨c, _, hc⟩ := List.mem_flatMap.1 hu
 exact List.all_eq_true.1 (show (D.Set.cells c).all (fun v => v.oneCell') = true from rfl) u hc
theorem list_give {α : Type} {f : α → List Value} {sz : Nat} (hf : ∀ x, (f x).length = sz) {b n c : Nat} {T : TypeId} {xs : List Value} {l : List α} {w : World} (hx : xs.take (n * sz) = l.flatMap f) (hn : n = l.length) (hnc : n ≤ c) : ∀ no, b ∉ no → w.heap[b]? = some (.cells xs.toArray T (0, 0)) → (SX.slF ⟨some ⟨b, 0, none⟩, n, c⟩ sz (l.flatMap f)).P w no := by
 intro no hb hw
 have hl : (l.flatMap f).length = n * sz := by rw [hn]; exact SX.flat_len f sz hf l
 refine .inr ⟨b, 0, xs.toArray, T, (0, 0), rfl, hw, hb, hl, hnc, fun i hi => ?_⟩
 have hi2 : i < n * sz := by omega
 rw [Nat.zero_add, List.getElem?_toArray, ← List.getElem?_take_of_lt hi2, hx, List.getElem?_eq_getElem hi]
def D.Tlb.with_ (t : D.Tlb) (i : Nat) (s : D.Set) : D.Tlb := ⟨t.sets.set i s⟩
theorem with_calls (t : D.Tlb) (i : Nat) (s : D.Set)  {no : List Nat} (s1 : SX.Sl) (w0 : World) (hno : ∀ b ∈ no, b < w0.heap.size) (hs1 : (D.tlbF s1 t.sets).P w0 no) (hi : i < t.sets.length) (hn : t.sets.length ≤ 16) : SX.Rets Tryz.prog 221 #[(D.Tlb.enc t s1), .int .i64 (((i : Nat) : Int)), (D.Set.enc s)] w0 (fun r_ w => ∃ y1 : SX.Sl, r_ = (D.Tlb.enc (t.with_ i s) y1) ∧ (D.tlbF y1 ((t.with_ i s).sets)).P w no) := by
 refine SX.enterN (args := [(D.Tlb.enc t s1), .int .i64 (((i : Nat) : Int)), (D.Set.enc s)]) (hno := hno) 17 Tryz.func221 rfl kr fun ac A H => ?_
 have H := H.known (D.tlbF s1 t.sets) hs1
 refine XS (XR (Xb [0, 0, 0] A H fun ac w A H => XD (XT (XS (XR (Xb [0, 0] A H fun ac w A H => ?_))))))
 have hlc := (H.fact' 0 (D.tlbF s1 t.sets) kr)
 have hcnt := SX.SlAt.count D.Set.len kc hlc
 refine SX.callW A (cloneS (t.sets.flatMap D.Set.cells) s1 w hlc (sets_one t.sets) (by rw [hcnt]; omega)) kr kr ?_
 rintro u ac w2 ⟨hB, hF⟩ A
 rw [hcnt] at hF
 rcases hF with ⟨rfl, hn0, hl0⟩ | ⟨b, c, zs, rfl, hblk, hlo, hcl, hyl, hnc, hcm⟩
 ·
  have H := H.later hB
  exact absurd hi ko
 ·
  have H := H.adoptE hB hblk hlo
  refine Xb [0, 0] A H fun ac w A H => XD (XT (XS (XR (Xb [0, 0, 0, 1] A H fun ac w A H => SX.given A (SX.run_idx_slice (P := Tryz.prog) (w := w) (T := 31) (E := 279) (sz := 45) (k := .i64) (b := b) (off := 0) (len := t.sets.length) (cap := c) (i := i) Tryz.underlying31 kr ko) kr kr fun ac A => ?_))))
  have hbk := H.has (b, .cells (t.sets.flatMap D.Set.cells ++ zs).toArray 279 (0, 0)) (List.mem_of_getElem? (i := 3) kr)
  have H := H.toFront 3 (p := (b, .cells (t.sets.flatMap D.Set.cells ++ zs).toArray 279 (0, 0))) kr
  have hfit : 0 + i * 45 + (D.Set.cells s).length ≤ (t.sets.flatMap D.Set.cells ++ zs).length := by rw [List.length_append, hyl, D.Set.len]; omega
  obtain ⟨x2, w3, hrun, hown, hx2, hg2⟩ := SX.do_store (P := Tryz.prog) (w := w) (T := 279) (b := b) (o := 0 + i * 45) (v := D.Set.enc s) (vs := D.Set.cells s) (by rfl) kr hbk hfit (fun u hu => List.all_eq_true.1 (show (D.Set.cells s).all (fun v => v.oneCell') = true from rfl) u hu)
  have H := (hown _ _ _ H).unrot
  rw [Nat.zero_add] at hg2
  refine SX.givenS A hrun kr kr fun ac A => XD (XT (XS (XR (Xb [0, 2] A H fun ac w A H => XD (XT (XW (Xr [2] (D.Tlb.enc (t.with_ i s) ⟨some ⟨b, 0, none⟩, t.sets.length, c⟩) A H ?_)))))))
  have H := H.toFront 3 (p := (b, .cells x2.toArray 279 (0, 0))) kr
  have H := H.give (D.tlbF ⟨some ⟨b, 0, none⟩, t.sets.length, c⟩ (t.with_ i s).sets) (list_give D.Set.len (flat_set D.Set.cells 45 kc D.Set.len hi s hx2 hg2) (by simp [D.Tlb.with_]) hnc)
  exact ⟨_, rfl, H.out 0 (D.tlbF ⟨some ⟨b, 0, none⟩, t.sets.length, c⟩ (t.with_ i s).sets) kr⟩
end Go.Proofs.YtfkmcdkncmapmaaGreatDoor
