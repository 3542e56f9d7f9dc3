/- Walks of functions, written by the session's own program wip/sx/sxgen.py; Lean checks them. -/
import Derived.Test.YtfkmcdkncmapmaaGreatDoorY02
import Derived.Test.YtfkmcdkncmapmaaGreatDoorY10
import Derived.Test.YtfkmcdkncmapmaaGreatDoorProg
set_option linter.unusedVariables false
set_option linter.unusedSimpArgs false
set_option maxRecDepth 100000
set_option maxHeartbeats 2000000
namespace Go.Proofs.YtfkmcdkncmapmaaGreatDoor
open Go Go.RowKit
def tAnd (x y : Int) : Int := IntKind.u8.wrap (((BitVec.ofInt IntKind.u8.bits x &&& BitVec.ofInt IntKind.u8.bits y).toNat : Nat) : Int)
def tOr (x y : Int) : Int := IntKind.u8.wrap (((BitVec.ofInt IntKind.u8.bits x ||| BitVec.ofInt IntKind.u8.bits y).toNat : Nat) : Int)
def tAndNot (x y : Int) : Int := IntKind.u8.wrap (((BitVec.ofInt IntKind.u8.bits x &&& ~~~ BitVec.ofInt IntKind.u8.bits y).toNat : Nat) : Int)
theorem u8v (x : Int) : Value.int .u8 (IntKind.u8.wrap x) = .int .u8 (((IntKind.u8.wrap x).toNat : Nat) : Int) := by
 rw [Int.toNat_of_nonneg]
 simp [IntKind.wrap, IntKind.bits, IntKind.signed]; omega
def touchN (t : Nat) (y : Int) : Nat := if y = 0 then (tOr (tAndNot t 0) 3).toNat else if y = 1 then (tOr (tAndNot t 2) 1).toNat else if y = 2 then (tOr (tAndNot t 1) 4).toNat else (tOr (tAndNot t 5) 0).toNat
def sideN (t b : Nat) : Int := if (tAnd t b != 0) = true then 1 else 0
theorem sideN_bd (t b : Nat) : 0 ≤ sideN t b ∧ sideN t b ≤ 1 := by unfold sideN; split <;> omega
def victimN (t : Nat) : Int := if sideN t 1 = 0 then sideN t 2 else 2 + sideN t 4
theorem victimN_bd (t : Nat) : 0 ≤ victimN t ∧ victimN t ≤ 3 := by
 have h2 := sideN_bd t 2; have h4 := sideN_bd t 4; unfold victimN; split <;> omega
namespace D
def Entry.zero : Entry := ⟨false, 0, false, 0, 0, 0, ⟨false, false, false, false⟩, false⟩
def Set.put (s : Set) (y : Int) (e : Entry) : Set := if y = 0 then { s with w0 := e } else if y = 1 then { s with w1 := e } else if y = 2 then { s with w2 := e } else { s with w3 := e }
def Set.way (s : Set) (y : Int) : Entry := if y = 0 then s.w0 else if y = 1 then s.w1 else if y = 2 then s.w2 else s.w3
def Set.use (s : Set) (y : Int) : Set := { s with tree := touchN s.tree y }
def Set.first (s : Set) (q : Entry → Bool) : Int := if q s.w0 then 0 else if q s.w1 then 1 else if q s.w2 then 2 else if q s.w3 then 3 else -1
theorem Set.first_bd (s : Set) (q : Entry → Bool) : -1 ≤ s.first q ∧ s.first q ≤ 3 := by unfold Set.first; split <;> (try split) <;> (try split) <;> (try split) <;> omega
def Entry.Lv (e : Entry) : Prop := e.valid = true → e.level = 0 ∨ e.level = 1 ∨ e.level = 2
structure Set.Lv (s : Set) : Prop where
 l0 : s.w0.Lv
 l1 : s.w1.Lv
 l2 : s.w2.Lv
 l3 : s.w3.Lv
def Set.find (s : Set) (asid x : Nat) (level : Int) : Int := s.first fun e => decide (e.level = level) && e.hits asid x
def Set.goes (s : Set) (victim : Int) : Int := if 0 ≤ victim ∧ victim < 4 then victim else if 0 ≤ s.first (fun e => !e.valid) then s.first (fun e => !e.valid) else victimN s.tree
theorem Set.goes_bd (s : Set) (v : Int) : 0 ≤ s.goes v ∧ s.goes v ≤ 3 := by
 have h1 := s.first_bd fun e => !e.valid; have h2 := victimN_bd s.tree; unfold Set.goes; split <;> (try split) <;> omega
def Set.dropO (o s : Set) (e : Entry) (y : Int) : Set := if e.same (o.way y) = true then s.put y Entry.zero else s
def Set.clean (s : Set) (e : Entry) : Set := Set.dropO s (Set.dropO s (Set.dropO s (Set.dropO s s e 0) e 1) e 2) e 3
def Set.ins (s : Set) (e : Entry) (v : Int) : Set := ((s.clean e).put ((s.clean e).goes v) e).use ((s.clean e).goes v)
end D
theorem Touch_calls (t : Nat) (y : Int)  (w0 : World) (hL : Ld w0) (hy : y = 0 ∨ y = 1 ∨ y = 2 ∨ y = 3) : SX.Gives Tryz.prog 241 #[.int .u8 (((t : Nat) : Int)), .int .i64 y] w0 (.int .u8 (((touchN t y : Nat) : Int))) := by
 rcases hy with rfl | rfl | rfl | rfl
 ·
  refine SX.enter (args := [.int .u8 (((t : Nat) : Int)), .int .i64 0]) 16 Tryz.func241 rfl kr fun ac A H => ?_
  obtain ⟨Ttouches, ftouches, hTtouches⟩ := hL.touches
  have H := H.fb_old hTtouches
  refine XS (XR (Xb [0] A H fun ac w A H => XD (XT (XS (XR (Xb [0, 0, 1000, 0, 0] A H fun ac w A H => XD (XT (XS (XR (Xb [0, 0, 0, 0, 0, 0, 0, 0] A H fun ac w A H => XD (XT (XW (Xr [0] (.int .u8 (IntKind.u8.wrap (((BitVec.ofInt IntKind.u8.bits (IntKind.u8.wrap (((BitVec.ofInt IntKind.u8.bits ((t : Nat) : Int) &&& ~~~ BitVec.ofInt IntKind.u8.bits 0).toNat : Nat) : Int)) ||| BitVec.ofInt IntKind.u8.bits 3).toNat : Nat) : Int))) A H ?_)))))))))))))
  exact u8v _
 ·
  refine SX.enter (args := [.int .u8 (((t : Nat) : Int)), .int .i64 1]) 16 Tryz.func241 rfl kr fun ac A H => ?_
  obtain ⟨Ttouches, ftouches, hTtouches⟩ := hL.touches
  have H := H.fb_old hTtouches
  refine XS (XR (Xb [0] A H fun ac w A H => XD (XT (XS (XR (Xb [0, 0, 1000, 0, 0] A H fun ac w A H => XD (XT (XS (XR (Xb [0, 0, 0, 0, 0, 0, 0, 0] A H fun ac w A H => XD (XT (XW (Xr [0] (.int .u8 (IntKind.u8.wrap (((BitVec.ofInt IntKind.u8.bits (IntKind.u8.wrap (((BitVec.ofInt IntKind.u8.bits ((t : Nat) : Int) &&& ~~~ BitVec.ofInt IntKind.u8.bits 2).toNat : Nat) : Int)) ||| BitVec.ofInt IntKind.u8.bits 1).toNat : Nat) : Int))) A H ?_)))))))))))))
  exact u8v _
 ·
  refine SX.enter (args := [.int .u8 (((t : Nat) : Int)), .int .i64 2]) 16 Tryz.func241 rfl kr fun ac A H => ?_
  obtain ⟨Ttouches, ftouches, hTtouches⟩ := hL.touches
  have H := H.fb_old hTtouches
  refine XS (XR (Xb [0] A H fun ac w A H => XD (XT (XS (XR (Xb [0, 0, 1000, 0, 0] A H fun ac w A H => XD (XT (XS (XR (Xb [0, 0, 0, 0, 0, 0, 0, 0] A H fun ac w A H => XD (XT (XW (Xr [0] (.int .u8 (IntKind.u8.wrap (((BitVec.ofInt IntKind.u8.bits (IntKind.u8.wrap (((BitVec.ofInt IntKind.u8.bits ((t : Nat) : Int) &&& ~~~ BitVec.ofInt IntKind.u8.bits 1).toNat : Nat) : Int)) ||| BitVec.ofInt IntKind.u8.bits 4).toNat : Nat) : Int))) A H ?_)))))))))))))
  exact u8v _
 ·
  refine SX.enter (args := [.int .u8 (((t : Nat) : Int)), .int .i64 3]) 16 Tryz.func241 rfl kr fun ac A H => ?_
  obtain ⟨Ttouches, ftouches, hTtouches⟩ := hL.touches
  have H := H.fb_old hTtouches
  refine XS (XR (Xb [0] A H fun ac w A H => XD (XT (XS (XR (Xb [0, 0, 1000, 0, 0] A H fun ac w A H => XD (XT (XS (XR (Xb [0, 0, 0, 0, 0, 0, 0, 0] A H fun ac w A H => XD (XT (XW (Xr [0] (.int .u8 (IntKind.u8.wrap (((BitVec.ofInt IntKind.u8.bits (IntKind.u8.wrap (((BitVec.ofInt IntKind.u8.bits ((t : Nat) : Int) &&& ~~~ BitVec.ofInt IntKind.u8.bits 5).toNat : Nat) : Int)) ||| BitVec.ofInt IntKind.u8.bits 0).toNat : Nat) : Int))) A H ?_)))))))))))))
  exact u8v _
theorem side_calls (t : Nat) (b : Nat)  (w0 : World) : SX.Gives Tryz.prog 247 #[.int .u8 (((t : Nat) : Int)), .int .u8 (((b : Nat) : Int))] w0 (.int .i64 (sideN t b)) := by
 refine SX.enter (args := [.int .u8 (((t : Nat) : Int)), .int .u8 (((b : Nat) : Int))]) 9 Tryz.func247 rfl kr fun ac A H => XS (XR (Xb [0] A H fun ac w A H => XD (XT (XS (XS (XR (Xb [0, 0, 0, 0] A H fun ac w A H => XD (XT ?_))))))))
 refine Xs ((IntKind.u8.wrap (((BitVec.ofInt IntKind.u8.bits ((t : Nat) : Int) &&& BitVec.ofInt IntKind.u8.bits ((b : Nat) : Int)).toNat : Nat) : Int)) != 0) (fun h1 => ?_) fun h1 => ?_
 ·
  have A := A.rb 8 h1
  have h1p : IntKind.u8.wrap (((BitVec.ofInt IntKind.u8.bits ((t : Nat) : Int) &&& BitVec.ofInt IntKind.u8.bits ((b : Nat) : Int)).toNat : Nat) : Int) ≠ 0 := kp h1
  refine Xt A (XS (XR (Xb [0] A H fun ac w A H => XD (XT (XW (XU (Xr [0] (.int .i64 1) A H ?_)))))))
  simp only [sideN, tAnd, h1] <;> rfl
 ·
  have A := A.rb 8 h1
  have h1p : ¬ (IntKind.u8.wrap (((BitVec.ofInt IntKind.u8.bits ((t : Nat) : Int) &&& BitVec.ofInt IntKind.u8.bits ((b : Nat) : Int)).toNat : Nat) : Int) ≠ 0) := kp h1
  refine Xf A (XK (XT (XS (XR (Xb [0] A H fun ac w A H => XD (XT (XW (Xr [0] (.int .i64 0) A H ?_))))))))
  simp only [sideN, tAnd, h1] <;> rfl
theorem Victim_calls (t : Nat)  (w0 : World) : SX.Gives Tryz.prog 243 #[.int .u8 (((t : Nat) : Int))] w0 (.int .i64 (victimN t)) := by
 have hs := sideN_bd t 4
 refine SX.enter (args := [.int .u8 (((t : Nat) : Int))]) 11 Tryz.func243 rfl kr fun ac A H => XS (XR (Xb [0] A H fun ac w A H => XD (XT (XS (XS (XR (Xb [0] A H fun ac w A H => Xc A H (side_calls t 1 w) fun ac w A H => Xb [0] A H fun ac w A H => XD (XT ?_))))))))
 refine Xs ((sideN t 1) == 0) (fun h1 => ?_) fun h1 => ?_
 ·
  have A := A.rb 5 h1
  have h1p : sideN t 1 = 0 := kp h1
  refine Xt A (XS (XR (Xb [0] A H fun ac w A H => Xc A H (side_calls t 2 w) fun ac w A H => Xb [0] A H fun ac w A H => XD (XT (XW (XU (Xr [0] (.int .i64 (sideN t 2)) A H ?_)))))))
  first | (rw [victimN, if_pos h1p]; done) | (rw [victimN, if_neg h1p]; done)
 ·
  have A := A.rb 5 h1
  have h1p : ¬ (sideN t 1 = 0) := kp h1
  refine Xf A (XK (XT (XS (XR (Xb [0] A H fun ac w A H => Xc A H (side_calls t 4 w) fun ac w A H => Xb [0] A H fun ac w A H => ?_)))))
  have A := A.re 10 (.int .i64 (IntKind.i64.wrap (2 + (sideN t 4)))) (.int .i64 ((2 + (sideN t 4)))) kr (SX.i_in _ ko ko)
  refine Xb [0] A H fun ac w A H => XD (XT (XW (Xr [0] (.int .i64 ((2 + (sideN t 4)))) A H ?_)))
  first | (rw [victimN, if_pos h1p]; done) | (rw [victimN, if_neg h1p]; done)
theorem sDrop_calls (s : D.Set) (y : Int)  (w0 : World) (hy : y = 0 ∨ y = 1 ∨ y = 2 ∨ y = 3) : SX.Gives Tryz.prog 222 #[(D.Set.enc s), .int .i64 y] w0 ((D.Set.enc (s.put y D.Entry.zero))) := by
 rcases hy with rfl | rfl | rfl | rfl
 ·
  refine SX.enter (args := [(D.Set.enc s), .int .i64 0]) 10 Tryz.func222 rfl kr fun ac A H => XS (XR (Xb [0, 0] A H fun ac w A H => XD (XT (XS (XR (Xb [0, 0, 0, 0, 0] A H fun ac w A H => XD (XT (XS (XR (Xb [0, 1] A H fun ac w A H => XD (XT (XW (Xr [1] ((D.Set.enc (⟨(⟨false, 0, false, 0, 0, 0, (⟨false, false, false, false⟩ : D.Perm), false⟩ : D.Entry), s.w1, s.w2, s.w3, s.tree⟩ : D.Set))) A H ?_)))))))))))))
  rfl
 ·
  refine SX.enter (args := [(D.Set.enc s), .int .i64 1]) 10 Tryz.func222 rfl kr fun ac A H => XS (XR (Xb [0, 0] A H fun ac w A H => XD (XT (XS (XR (Xb [0, 0, 0, 0, 0] A H fun ac w A H => XD (XT (XS (XR (Xb [0, 1] A H fun ac w A H => XD (XT (XW (Xr [1] ((D.Set.enc (⟨s.w0, (⟨false, 0, false, 0, 0, 0, (⟨false, false, false, false⟩ : D.Perm), false⟩ : D.Entry), s.w2, s.w3, s.tree⟩ : D.Set))) A H ?_)))))))))))))
  rfl
 ·
  refine SX.enter (args := [(D.Set.enc s), .int .i64 2]) 10 Tryz.func222 rfl kr fun ac A H => XS (XR (Xb [0, 0] A H fun ac w A H => XD (XT (XS (XR (Xb [0, 0, 0, 0, 0] A H fun ac w A H => XD (XT (XS (XR (Xb [0, 1] A H fun ac w A H => XD (XT (XW (Xr [1] ((D.Set.enc (⟨s.w0, s.w1, (⟨false, 0, false, 0, 0, 0, (⟨false, false, false, false⟩ : D.Perm), false⟩ : D.Entry), s.w3, s.tree⟩ : D.Set))) A H ?_)))))))))))))
  rfl
 ·
  refine SX.enter (args := [(D.Set.enc s), .int .i64 3]) 10 Tryz.func222 rfl kr fun ac A H => XS (XR (Xb [0, 0] A H fun ac w A H => XD (XT (XS (XR (Xb [0, 0, 0, 0, 0] A H fun ac w A H => XD (XT (XS (XR (Xb [0, 1] A H fun ac w A H => XD (XT (XW (Xr [1] ((D.Set.enc (⟨s.w0, s.w1, s.w2, (⟨false, 0, false, 0, 0, 0, (⟨false, false, false, false⟩ : D.Perm), false⟩ : D.Entry), s.tree⟩ : D.Set))) A H ?_)))))))))))))
  rfl
theorem sUse_calls (s : D.Set) (y : Int)  (w0 : World) (hL : Ld w0) (hy : y = 0 ∨ y = 1 ∨ y = 2 ∨ y = 3) : SX.Gives Tryz.prog 230 #[(D.Set.enc s), .int .i64 y] w0 ((D.Set.enc (s.use y))) := by
 refine SX.enter (args := [(D.Set.enc s), .int .i64 y]) 11 Tryz.func230 rfl kr fun ac A H => XS (XR (Xb [0, 0] A H fun ac w A H => XD (XT (XS (XR (Xb [0, 0, 0] A H fun ac w A H => Xc A H (Touch_calls s.tree y w (hL.below H.below) ko) fun ac w A H => Xb [0, 0] A H fun ac w A H => XD (XT (XS (XR (Xb [0, 1] A H fun ac w A H => XD (XT (XW (Xr [1] ((D.Set.enc (⟨s.w0, s.w1, s.w2, s.w3, touchN s.tree y⟩ : D.Set))) A H ?_)))))))))))))
 rfl
theorem IndexGoes_calls  (s : D.Set) (w0 : World) (bs : Nat) (Ts : TypeId) (fs : Nat × Nat) (hbs : w0.heap[bs]? = some (.cells #[.bool s.w0.valid, .int .u64 (((s.w0.asid : Nat) : Int)), .bool s.w0.global, .int .i64 (s.w0.level), .int .u64 (((s.w0.vpn : Nat) : Int)), .int .u64 (((s.w0.ppn : Nat) : Int)), .bool s.w0.perm.r, .bool s.w0.perm.w, .bool s.w0.perm.x, .bool s.w0.perm.u, .bool s.w0.dirty, .bool s.w1.valid, .int .u64 (((s.w1.asid : Nat) : Int)), .bool s.w1.global, .int .i64 (s.w1.level), .int .u64 (((s.w1.vpn : Nat) : Int)), .int .u64 (((s.w1.ppn : Nat) : Int)), .bool s.w1.perm.r, .bool s.w1.perm.w, .bool s.w1.perm.x, .bool s.w1.perm.u, .bool s.w1.dirty, .bool s.w2.valid, .int .u64 (((s.w2.asid : Nat) : Int)), .bool s.w2.global, .int .i64 (s.w2.level), .int .u64 (((s.w2.vpn : Nat) : Int)), .int .u64 (((s.w2.ppn : Nat) : Int)), .bool s.w2.perm.r, .bool s.w2.perm.w, .bool s.w2.perm.x, .bool s.w2.perm.u, .bool s.w2.dirty, .bool s.w3.valid, .int .u64 (((s.w3.asid : Nat) : Int)), .bool s.w3.global, .int .i64 (s.w3.level), .int .u64 (((s.w3.vpn : Nat) : Int)), .int .u64 (((s.w3.ppn : Nat) : Int)), .bool s.w3.perm.r, .bool s.w3.perm.w, .bool s.w3.perm.x, .bool s.w3.perm.u, .bool s.w3.dirty, .int .u8 (((s.tree : Nat) : Int))] Ts fs)) : SX.Gives Tryz.prog 245 #[.slice (some ⟨bs, 0, none⟩) 4 4, .func (.func 242) #[] #[]] w0 (.int .i64 (s.first (fun e => !e.valid))) := by
 refine SX.enter (args := [.slice (some ⟨bs, 0, none⟩) 4 4, .func (.func 242) #[] #[]]) 19 Tryz.func245 rfl kr fun ac A H => ?_
 have H := H.fb_old hbs
 refine XS (XR (Xb [0] A H fun ac w A H => XD (XT (XS (XS (XR (Xb [0, 0, 0] A H fun ac w A H => XD (XT (XB (wp_loop_rounds 5 (XO (XS (XR (Xb [0] A H fun ac w A H => XD (XT (XS (Xt A (XK (XT (XS (XB (XS (XR (Xb [0, 0] A H fun ac w A H => XD (XT (XS (XR (Xb [0, 0, 0, 0, 1000] A H fun ac w A H => Xc A H (goes1_calls s.w0 w) fun ac w A H => XD (XT ?_)))))))))))))))))))))))))))))
 refine Xs (s.w0.valid) (fun h1 => ?_) fun h1 => ?_
 ·
  have A := A.re 16 (.bool (!s.w0.valid)) (.bool false) kr (by rw [h1]; rfl)
  refine Xf A (XK (XN (XT (XR (Xb [0, 0] A H fun ac w A H => XD (XT (XO (XS (XR (Xb [0] A H fun ac w A H => XD (XT (XS (Xt A (XK (XT (XS (XB (XS (XR (Xb [0, 0] A H fun ac w A H => XD (XT (XS (XR (Xb [0, 0, 0, 0, 1000] A H fun ac w A H => Xc A H (goes1_calls s.w1 w) fun ac w A H => XD (XT ?_)))))))))))))))))))))))))
  refine Xs (s.w1.valid) (fun h2 => ?_) fun h2 => ?_
  ·
   have A := A.re 16 (.bool (!s.w1.valid)) (.bool false) kr (by rw [h2]; rfl)
   refine Xf A (XK (XN (XT (XR (Xb [0, 0] A H fun ac w A H => XD (XT (XO (XS (XR (Xb [0] A H fun ac w A H => XD (XT (XS (Xt A (XK (XT (XS (XB (XS (XR (Xb [0, 0] A H fun ac w A H => XD (XT (XS (XR (Xb [0, 0, 0, 0, 1000] A H fun ac w A H => Xc A H (goes1_calls s.w2 w) fun ac w A H => XD (XT ?_)))))))))))))))))))))))))
   refine Xs (s.w2.valid) (fun h3 => ?_) fun h3 => ?_
   ·
    have A := A.re 16 (.bool (!s.w2.valid)) (.bool false) kr (by rw [h3]; rfl)
    refine Xf A (XK (XN (XT (XR (Xb [0, 0] A H fun ac w A H => XD (XT (XO (XS (XR (Xb [0] A H fun ac w A H => XD (XT (XS (Xt A (XK (XT (XS (XB (XS (XR (Xb [0, 0] A H fun ac w A H => XD (XT (XS (XR (Xb [0, 0, 0, 0, 1000] A H fun ac w A H => Xc A H (goes1_calls s.w3 w) fun ac w A H => XD (XT ?_)))))))))))))))))))))))))
    refine Xs (s.w3.valid) (fun h4 => ?_) fun h4 => ?_
    ·
     have A := A.re 16 (.bool (!s.w3.valid)) (.bool false) kr (by rw [h4]; rfl)
     refine Xf A (XK (XN (XT (XR (Xb [0, 0] A H fun ac w A H => XD (XT (XO (XS (XR (Xb [0] A H fun ac w A H => XD (XT (XS (Xf A (XI (XX (XX (XE (XT (XS (XR (Xb [0] A H fun ac w A H => XD (XT (XW (Xr [0] (.int .i64 ((-1))) A H ?_))))))))))))))))))))))))
     simp only [D.Set.first, h1, h2, h3, h4] <;> rfl
    ·
     have A := A.re 16 (.bool (!s.w3.valid)) (.bool true) kr (by rw [h4]; rfl)
     refine Xt A (XS (XR (Xb [0, 0] A H fun ac w A H => XD (XT (XW (XQ (XU (XU (XQ (XU (Xr [0] (.int .i64 3) A H ?_)))))))))))
     simp only [D.Set.first, h1, h2, h3, h4] <;> rfl
   ·
    have A := A.re 16 (.bool (!s.w2.valid)) (.bool true) kr (by rw [h3]; rfl)
    refine Xt A (XS (XR (Xb [0, 0] A H fun ac w A H => XD (XT (XW (XQ (XU (XU (XQ (XU (Xr [0] (.int .i64 2) A H ?_)))))))))))
    simp only [D.Set.first, h1, h2, h3] <;> rfl
  ·
   have A := A.re 16 (.bool (!s.w1.valid)) (.bool true) kr (by rw [h2]; rfl)
   refine Xt A (XS (XR (Xb [0, 0] A H fun ac w A H => XD (XT (XW (XQ (XU (XU (XQ (XU (Xr [0] (.int .i64 1) A H ?_)))))))))))
   simp only [D.Set.first, h1, h2] <;> rfl
 ·
  have A := A.re 16 (.bool (!s.w0.valid)) (.bool true) kr (by rw [h1]; rfl)
  refine Xt A (XS (XR (Xb [0, 0] A H fun ac w A H => XD (XT (XW (XQ (XU (XU (XQ (XU (Xr [0] (.int .i64 0) A H ?_)))))))))))
  simp only [D.Set.first, h1] <;> rfl
theorem IndexFind_calls  (s : D.Set) (level : Int) (asid : Nat) (x : Nat) (w0 : World) (hL : Ld w0) (bs : Nat) (Ts : TypeId) (fs : Nat × Nat) (hbs : w0.heap[bs]? = some (.cells #[.bool s.w0.valid, .int .u64 (((s.w0.asid : Nat) : Int)), .bool s.w0.global, .int .i64 (s.w0.level), .int .u64 (((s.w0.vpn : Nat) : Int)), .int .u64 (((s.w0.ppn : Nat) : Int)), .bool s.w0.perm.r, .bool s.w0.perm.w, .bool s.w0.perm.x, .bool s.w0.perm.u, .bool s.w0.dirty, .bool s.w1.valid, .int .u64 (((s.w1.asid : Nat) : Int)), .bool s.w1.global, .int .i64 (s.w1.level), .int .u64 (((s.w1.vpn : Nat) : Int)), .int .u64 (((s.w1.ppn : Nat) : Int)), .bool s.w1.perm.r, .bool s.w1.perm.w, .bool s.w1.perm.x, .bool s.w1.perm.u, .bool s.w1.dirty, .bool s.w2.valid, .int .u64 (((s.w2.asid : Nat) : Int)), .bool s.w2.global, .int .i64 (s.w2.level), .int .u64 (((s.w2.vpn : Nat) : Int)), .int .u64 (((s.w2.ppn : Nat) : Int)), .bool s.w2.perm.r, .bool s.w2.perm.w, .bool s.w2.perm.x, .bool s.w2.perm.u, .bool s.w2.dirty, .bool s.w3.valid, .int .u64 (((s.w3.asid : Nat) : Int)), .bool s.w3.global, .int .i64 (s.w3.level), .int .u64 (((s.w3.vpn : Nat) : Int)), .int .u64 (((s.w3.ppn : Nat) : Int)), .bool s.w3.perm.r, .bool s.w3.perm.w, .bool s.w3.perm.x, .bool s.w3.perm.u, .bool s.w3.dirty, .int .u8 (((s.tree : Nat) : Int))] Ts fs)) (blevel : Nat) (Tlevel : TypeId) (flevel : Nat × Nat) (hblevel : w0.heap[blevel]? = some (.cells #[.int .i64 level] Tlevel flevel)) (basid : Nat) (Tasid : TypeId) (fasid : Nat × Nat) (hbasid : w0.heap[basid]? = some (.cells #[.int .u64 (((asid : Nat) : Int))] Tasid fasid)) (bx : Nat) (Tx : TypeId) (fx : Nat × Nat) (hbx : w0.heap[bx]? = some (.cells #[.int .u64 (((x : Nat) : Int))] Tx fx)) (hx : x < 18446744073709551616) (hl : s.Lv) : SX.Gives Tryz.prog 245 #[.slice (some ⟨bs, 0, none⟩) 4 4, .func (.func 238) #[] #[.pointer (some ⟨blevel, 0, none⟩), .pointer (some ⟨basid, 0, none⟩), .pointer (some ⟨bx, 0, none⟩)]] w0 (.int .i64 (s.find asid x level)) := by
 refine SX.enter (args := [.slice (some ⟨bs, 0, none⟩) 4 4, .func (.func 238) #[] #[.pointer (some ⟨blevel, 0, none⟩), .pointer (some ⟨basid, 0, none⟩), .pointer (some ⟨bx, 0, none⟩)]]) 19 Tryz.func245 rfl kr fun ac A H => ?_
 have H := H.fb_old hbs
 have H := H.fb_old hblevel
 have H := H.fb_old hbasid
 have H := H.fb_old hbx
 refine XS (XR (Xb [0] A H fun ac w A H => XD (XT (XS (XS (XR (Xb [0, 0, 0] A H fun ac w A H => XD (XT (XB (wp_loop_rounds 5 (XO (XS (XR (Xb [0] A H fun ac w A H => XD (XT (XS (Xt A (XK (XT (XS (XB (XS (XR (Xb [0, 0] A H fun ac w A H => XD (XT (XS (XR (Xb [0, 0, 0, 0, 1000] A H fun ac w A H => Xc A H (Find1_calls s.w0 level asid x w (hL.below H.below) blevel Tlevel flevel (SX.ofOld H hblevel) basid Tasid fasid (SX.ofOld H hbasid) bx Tx fx (SX.ofOld H hbx) ko (by first | exact hl.l0 | exact hl.l1 | exact hl.l2 | exact hl.l3)) fun ac w A H => XD (XT ?_)))))))))))))))))))))))))))))
 refine Xs (decide (s.w0.level = level) && s.w0.hits asid x) (fun h1 => ?_) fun h1 => ?_
 ·
  have A := A.rb 16 h1
  refine Xt A (XS (XR (Xb [0, 0] A H fun ac w A H => XD (XT (XW (XQ (XU (XU (XQ (XU (Xr [0] (.int .i64 0) A H ?_)))))))))))
  simp only [D.Set.find, D.Set.first, h1] <;> rfl
 ·
  have A := A.rb 16 h1
  refine Xf A (XK (XN (XT (XR (Xb [0, 0] A H fun ac w A H => XD (XT (XO (XS (XR (Xb [0] A H fun ac w A H => XD (XT (XS (Xt A (XK (XT (XS (XB (XS (XR (Xb [0, 0] A H fun ac w A H => XD (XT (XS (XR (Xb [0, 0, 0, 0, 1000] A H fun ac w A H => Xc A H (Find1_calls s.w1 level asid x w (hL.below H.below) blevel Tlevel flevel (SX.ofOld H hblevel) basid Tasid fasid (SX.ofOld H hbasid) bx Tx fx (SX.ofOld H hbx) ko (by first | exact hl.l0 | exact hl.l1 | exact hl.l2 | exact hl.l3)) fun ac w A H => XD (XT ?_)))))))))))))))))))))))))
  refine Xs (decide (s.w1.level = level) && s.w1.hits asid x) (fun h2 => ?_) fun h2 => ?_
  ·
   have A := A.rb 16 h2
   refine Xt A (XS (XR (Xb [0, 0] A H fun ac w A H => XD (XT (XW (XQ (XU (XU (XQ (XU (Xr [0] (.int .i64 1) A H ?_)))))))))))
   simp only [D.Set.find, D.Set.first, h1, h2] <;> rfl
  ·
   have A := A.rb 16 h2
   refine Xf A (XK (XN (XT (XR (Xb [0, 0] A H fun ac w A H => XD (XT (XO (XS (XR (Xb [0] A H fun ac w A H => XD (XT (XS (Xt A (XK (XT (XS (XB (XS (XR (Xb [0, 0] A H fun ac w A H => XD (XT (XS (XR (Xb [0, 0, 0, 0, 1000] A H fun ac w A H => Xc A H (Find1_calls s.w2 level asid x w (hL.below H.below) blevel Tlevel flevel (SX.ofOld H hblevel) basid Tasid fasid (SX.ofOld H hbasid) bx Tx fx (SX.ofOld H hbx) ko (by first | exact hl.l0 | exact hl.l1 | exact hl.l2 | exact hl.l3)) fun ac w A H => XD (XT ?_)))))))))))))))))))))))))
   refine Xs (decide (s.w2.level = level) && s.w2.hits asid x) (fun h3 => ?_) fun h3 => ?_
   ·
    have A := A.rb 16 h3
    refine Xt A (XS (XR (Xb [0, 0] A H fun ac w A H => XD (XT (XW (XQ (XU (XU (XQ (XU (Xr [0] (.int .i64 2) A H ?_)))))))))))
    simp only [D.Set.find, D.Set.first, h1, h2, h3] <;> rfl
   ·
    have A := A.rb 16 h3
    refine Xf A (XK (XN (XT (XR (Xb [0, 0] A H fun ac w A H => XD (XT (XO (XS (XR (Xb [0] A H fun ac w A H => XD (XT (XS (Xt A (XK (XT (XS (XB (XS (XR (Xb [0, 0] A H fun ac w A H => XD (XT (XS (XR (Xb [0, 0, 0, 0, 1000] A H fun ac w A H => Xc A H (Find1_calls s.w3 level asid x w (hL.below H.below) blevel Tlevel flevel (SX.ofOld H hblevel) basid Tasid fasid (SX.ofOld H hbasid) bx Tx fx (SX.ofOld H hbx) ko (by first | exact hl.l0 | exact hl.l1 | exact hl.l2 | exact hl.l3)) fun ac w A H => XD (XT ?_)))))))))))))))))))))))))
    refine Xs (decide (s.w3.level = level) && s.w3.hits asid x) (fun h4 => ?_) fun h4 => ?_
    ·
     have A := A.rb 16 h4
     refine Xt A (XS (XR (Xb [0, 0] A H fun ac w A H => XD (XT (XW (XQ (XU (XU (XQ (XU (Xr [0] (.int .i64 3) A H ?_)))))))))))
     simp only [D.Set.find, D.Set.first, h1, h2, h3, h4] <;> rfl
    ·
     have A := A.rb 16 h4
     refine Xf A (XK (XN (XT (XR (Xb [0, 0] A H fun ac w A H => XD (XT (XO (XS (XR (Xb [0] A H fun ac w A H => XD (XT (XS (Xf A (XI (XX (XX (XE (XT (XS (XR (Xb [0] A H fun ac w A H => XD (XT (XW (Xr [0] (.int .i64 ((-1))) A H ?_))))))))))))))))))))))))
     simp only [D.Set.find, D.Set.first, h1, h2, h3, h4] <;> rfl
theorem firstGoes_calls (s : D.Set)  (w0 : World) : SX.Gives Tryz.prog 237 #[(D.Set.enc s), .func (.func 242) #[] #[]] w0 (.int .i64 (s.first (fun e => !e.valid))) := by
 refine SX.enter (args := [(D.Set.enc s), .func (.func 242) #[] #[]]) 9 Tryz.func237 rfl kr fun ac A H => XS (XR (Xb [0, 0] A H fun ac w A H => XD (XT (XS (XR (Xb [0, 0, 0] A H fun ac w A H => Xc A H (IndexGoes_calls s w (SX.boxB _ 0) 279 (0, 0) (SX.boxHas H 0 #[.bool s.w0.valid, .int .u64 (((s.w0.asid : Nat) : Int)), .bool s.w0.global, .int .i64 (s.w0.level), .int .u64 (((s.w0.vpn : Nat) : Int)), .int .u64 (((s.w0.ppn : Nat) : Int)), .bool s.w0.perm.r, .bool s.w0.perm.w, .bool s.w0.perm.x, .bool s.w0.perm.u, .bool s.w0.dirty, .bool s.w1.valid, .int .u64 (((s.w1.asid : Nat) : Int)), .bool s.w1.global, .int .i64 (s.w1.level), .int .u64 (((s.w1.vpn : Nat) : Int)), .int .u64 (((s.w1.ppn : Nat) : Int)), .bool s.w1.perm.r, .bool s.w1.perm.w, .bool s.w1.perm.x, .bool s.w1.perm.u, .bool s.w1.dirty, .bool s.w2.valid, .int .u64 (((s.w2.asid : Nat) : Int)), .bool s.w2.global, .int .i64 (s.w2.level), .int .u64 (((s.w2.vpn : Nat) : Int)), .int .u64 (((s.w2.ppn : Nat) : Int)), .bool s.w2.perm.r, .bool s.w2.perm.w, .bool s.w2.perm.x, .bool s.w2.perm.u, .bool s.w2.dirty, .bool s.w3.valid, .int .u64 (((s.w3.asid : Nat) : Int)), .bool s.w3.global, .int .i64 (s.w3.level), .int .u64 (((s.w3.vpn : Nat) : Int)), .int .u64 (((s.w3.ppn : Nat) : Int)), .bool s.w3.perm.r, .bool s.w3.perm.w, .bool s.w3.perm.x, .bool s.w3.perm.u, .bool s.w3.dirty, .int .u8 (((s.tree : Nat) : Int))] 279 kr kr)) fun ac w A H => Xb [0] A H fun ac w A H => XD (XT (XW (Xr [0] (.int .i64 (s.first (fun e => !e.valid))) A H ?_)))))))))
 rfl
theorem firstFind_calls (s : D.Set) (level : Int) (asid : Nat) (x : Nat) (w0 : World) (hL : Ld w0) (blevel : Nat) (Tlevel : TypeId) (flevel : Nat × Nat) (hblevel : w0.heap[blevel]? = some (.cells #[.int .i64 level] Tlevel flevel)) (basid : Nat) (Tasid : TypeId) (fasid : Nat × Nat) (hbasid : w0.heap[basid]? = some (.cells #[.int .u64 (((asid : Nat) : Int))] Tasid fasid)) (bx : Nat) (Tx : TypeId) (fx : Nat × Nat) (hbx : w0.heap[bx]? = some (.cells #[.int .u64 (((x : Nat) : Int))] Tx fx)) (hx : x < 18446744073709551616) (hl : s.Lv) : SX.Gives Tryz.prog 237 #[(D.Set.enc s), .func (.func 238) #[] #[.pointer (some ⟨blevel, 0, none⟩), .pointer (some ⟨basid, 0, none⟩), .pointer (some ⟨bx, 0, none⟩)]] w0 (.int .i64 (s.find asid x level)) := by
 refine SX.enter (args := [(D.Set.enc s), .func (.func 238) #[] #[.pointer (some ⟨blevel, 0, none⟩), .pointer (some ⟨basid, 0, none⟩), .pointer (some ⟨bx, 0, none⟩)]]) 9 Tryz.func237 rfl kr fun ac A H => ?_
 have H := H.fb_old hblevel
 have H := H.fb_old hbasid
 have H := H.fb_old hbx
 refine XS (XR (Xb [0, 0] A H fun ac w A H => XD (XT (XS (XR (Xb [0, 0, 0] A H fun ac w A H => Xc A H (IndexFind_calls s level asid x w (hL.below H.below) (SX.boxB _ 0) 279 (0, 0) (SX.boxHas H 0 #[.bool s.w0.valid, .int .u64 (((s.w0.asid : Nat) : Int)), .bool s.w0.global, .int .i64 (s.w0.level), .int .u64 (((s.w0.vpn : Nat) : Int)), .int .u64 (((s.w0.ppn : Nat) : Int)), .bool s.w0.perm.r, .bool s.w0.perm.w, .bool s.w0.perm.x, .bool s.w0.perm.u, .bool s.w0.dirty, .bool s.w1.valid, .int .u64 (((s.w1.asid : Nat) : Int)), .bool s.w1.global, .int .i64 (s.w1.level), .int .u64 (((s.w1.vpn : Nat) : Int)), .int .u64 (((s.w1.ppn : Nat) : Int)), .bool s.w1.perm.r, .bool s.w1.perm.w, .bool s.w1.perm.x, .bool s.w1.perm.u, .bool s.w1.dirty, .bool s.w2.valid, .int .u64 (((s.w2.asid : Nat) : Int)), .bool s.w2.global, .int .i64 (s.w2.level), .int .u64 (((s.w2.vpn : Nat) : Int)), .int .u64 (((s.w2.ppn : Nat) : Int)), .bool s.w2.perm.r, .bool s.w2.perm.w, .bool s.w2.perm.x, .bool s.w2.perm.u, .bool s.w2.dirty, .bool s.w3.valid, .int .u64 (((s.w3.asid : Nat) : Int)), .bool s.w3.global, .int .i64 (s.w3.level), .int .u64 (((s.w3.vpn : Nat) : Int)), .int .u64 (((s.w3.ppn : Nat) : Int)), .bool s.w3.perm.r, .bool s.w3.perm.w, .bool s.w3.perm.x, .bool s.w3.perm.u, .bool s.w3.dirty, .int .u8 (((s.tree : Nat) : Int))] 279 kr kr) blevel Tlevel flevel (SX.ofOld H hblevel) basid Tasid fasid (SX.ofOld H hbasid) bx Tx fx (SX.ofOld H hbx) ko (hl)) fun ac w A H => Xb [0] A H fun ac w A H => XD (XT (XW (Xr [0] (.int .i64 (s.find asid x level)) A H ?_)))))))))
 rfl
theorem goes_calls (s : D.Set) (victim : Int)  (w0 : World) : SX.Gives Tryz.prog 234 #[(D.Set.enc s), .int .i64 victim] w0 (.int .i64 (s.goes victim)) := by
 refine SX.enter (args := [(D.Set.enc s), .int .i64 victim]) 21 Tryz.func234 rfl kr fun ac A H => XS (XR (Xb [0, 0] A H fun ac w A H => XD (XT (XS (XS (XR (Xb [0, 0, 0] A H fun ac w A H => ?_)))))))
 refine Xs (decide (victim ≥ 0)) (fun h1 => ?_) fun h1 => ?_
 ·
  have A := A.rb 8 h1
  have h1p : victim ≥ 0 := kp h1
  refine Xb [0, 0, 0] A H fun ac w A H => XD (XT ?_)
  refine Xs (decide (victim < 4)) (fun h2 => ?_) fun h2 => ?_
  ·
   have A := A.rb 11 h2
   have h2p : victim < 4 := kp h2
   refine Xt A (XS (XR (Xb [0, 0] A H fun ac w A H => XD (XT (XW (XU (Xr [0] (.int .i64 victim) A H (congrArg (Value.int .i64) ?_))))))))
   unfold D.Set.goes; split <;> (try split) <;> first | rfl | (exfalso; omega)
  ·
   have A := A.rb 11 h2
   have h2p : ¬ (victim < 4) := kp h2
   refine Xf A (XK (XT (XS (XS (XR (Xb [0] A H fun ac w A H => Xc A H (firstGoes_calls s w) fun ac w A H => Xb [0] A H fun ac w A H => XD (XT (XS (XR (Xb [0, 0] A H fun ac w A H => XD (XT ?_)))))))))))
   refine Xs (decide ((s.first (fun e => !e.valid)) ≥ 0)) (fun h3 => ?_) fun h3 => ?_
   ·
    have A := A.rb 16 h3
    have h3p : s.first (fun e => !e.valid) ≥ 0 := kp h3
    refine Xt A (XS (XR (Xb [0, 0] A H fun ac w A H => XD (XT (XW (XU (Xr [0] (.int .i64 (s.first (fun e => !e.valid))) A H (congrArg (Value.int .i64) ?_))))))))
    unfold D.Set.goes; split <;> (try split) <;> first | rfl | (exfalso; omega)
   ·
    have A := A.rb 16 h3
    have h3p : ¬ (s.first (fun e => !e.valid) ≥ 0) := kp h3
    refine Xf A (XK (XT (XS (XR (Xb [0, 0] A H fun ac w A H => Xc A H (Victim_calls s.tree w) fun ac w A H => Xb [0] A H fun ac w A H => XD (XT (XW (Xr [0] (.int .i64 (victimN s.tree)) A H (congrArg (Value.int .i64) ?_)))))))))
    unfold D.Set.goes; split <;> (try split) <;> first | rfl | (exfalso; omega)
 ·
  have A := A.rb 8 h1
  have h1p : ¬ (victim ≥ 0) := kp h1
  refine Xb [0, 0, 0] A H fun ac w A H => XD (XT (Xf A (XK (XT (XS (XS (XR (Xb [0] A H fun ac w A H => Xc A H (firstGoes_calls s w) fun ac w A H => Xb [0] A H fun ac w A H => XD (XT (XS (XR (Xb [0, 0] A H fun ac w A H => XD (XT ?_)))))))))))))
  refine Xs (decide ((s.first (fun e => !e.valid)) ≥ 0)) (fun h4 => ?_) fun h4 => ?_
  ·
   have A := A.rb 16 h4
   have h4p : s.first (fun e => !e.valid) ≥ 0 := kp h4
   refine Xt A (XS (XR (Xb [0, 0] A H fun ac w A H => XD (XT (XW (XU (Xr [0] (.int .i64 (s.first (fun e => !e.valid))) A H (congrArg (Value.int .i64) ?_))))))))
   unfold D.Set.goes; split <;> (try split) <;> first | rfl | (exfalso; omega)
  ·
   have A := A.rb 16 h4
   have h4p : ¬ (s.first (fun e => !e.valid) ≥ 0) := kp h4
   refine Xf A (XK (XT (XS (XR (Xb [0, 0] A H fun ac w A H => Xc A H (Victim_calls s.tree w) fun ac w A H => Xb [0] A H fun ac w A H => XD (XT (XW (Xr [0] (.int .i64 (victimN s.tree)) A H (congrArg (Value.int .i64) ?_)))))))))
   unfold D.Set.goes; split <;> (try split) <;> first | rfl | (exfalso; omega)
theorem sFind_calls (s : D.Set) (asid : Nat) (x : Nat) (level : Int)  (w0 : World) (hL : Ld w0) (hx : x < 18446744073709551616) (hl : s.Lv) : SX.Gives Tryz.prog 228 #[(D.Set.enc s), .int .u64 (((asid : Nat) : Int)), .int .u64 (((x : Nat) : Int)), .int .i64 level] w0 ((.tuple #[.int .i64 (if 0 > s.find asid x level then 0 else s.find asid x level), .bool (decide (s.find asid x level ≥ 0))])) := by
 refine SX.enter (args := [(D.Set.enc s), .int .u64 (((asid : Nat) : Int)), .int .u64 (((x : Nat) : Int)), .int .i64 level]) 18 Tryz.func228 rfl kr fun ac A H => XS (XR (Xb [0, 0, 0, 0, 0, 0] A H fun ac w A H => XD (XT (XS (XR (Xb [0, 0] A H fun ac w A H => Xc A H (firstFind_calls s level asid x w (hL.below H.below) (SX.boxB _ 3) 3 (0, 0) (SX.boxHas H 3 #[.int .i64 level] 3 kr kr) (SX.boxB _ 1) 27 (0, 0) (SX.boxHas H 1 #[.int .u64 (((asid : Nat) : Int))] 27 kr kr) (SX.boxB _ 2) 27 (0, 0) (SX.boxHas H 2 #[.int .u64 (((x : Nat) : Int))] 27 kr kr) ko (hl)) fun ac w A H => Xb [0] A H fun ac w A H => XD (XT (XS (XR (Xb [0, 0, 0, 0, 0, 0] A H fun ac w A H => XD (XT (XW (Xr [0, 0] ((.tuple #[.int .i64 (if 0 > (s.find asid x level) then 0 else (s.find asid x level)), .bool (decide ((s.find asid x level) ≥ 0))])) A H ?_)))))))))))))
 rfl
theorem sPut_calls (s : D.Set) (e : D.Entry) (victim : Int)  (w0 : World) (hL : Ld w0) : SX.Gives Tryz.prog 220 #[(D.Set.enc s), (D.Entry.enc e), .int .i64 victim] w0 ((.tuple #[(D.Set.enc (s.ins e victim)), .int .i64 ((s.clean e).goes victim)])) := by
 refine SX.enter (args := [(D.Set.enc s), (D.Entry.enc e), .int .i64 victim]) 35 Tryz.func220 rfl kr fun ac A H => XS (XR (Xb [0, 0, 0, 0] A H fun ac w A H => XD (XT (XS (XS (XR (Xb [0, 0, 0] A H fun ac w A H => XD (XT (XB (wp_loop_rounds 5 (XO (XS (XR (Xb [0] A H fun ac w A H => XD (XT (XS (Xt A (XK (XT (XS (XB (XS (XR (Xb [0, 0, 0, 0, 3] A H fun ac w A H => XD (XT (XS (XR (Xb [1, 3] A H fun ac w A H => Xc A H (Same_calls e s.w0 w) fun ac w A H => XD (XT ?_)))))))))))))))))))))))))))))
 refine SX.cut (fun ac w => ∃ B0 B1 B2 B3 : Nat, SX.Agrees 35 ac [(2, .int .i64 victim), (3, .pointer (some ⟨B0, 0, none⟩)), (4, .pointer (some ⟨B1, 0, none⟩)), (6, .pointer (some ⟨B2, 0, none⟩)), (7, .int .i64 0), (12, (.agg #[.bool s.w0.valid, .int .u64 (((s.w0.asid : Nat) : Int)), .bool s.w0.global, .int .i64 (s.w0.level), .int .u64 (((s.w0.vpn : Nat) : Int)), .int .u64 (((s.w0.ppn : Nat) : Int)), .bool s.w0.perm.r, .bool s.w0.perm.w, .bool s.w0.perm.x, .bool s.w0.perm.u, .bool s.w0.dirty, .bool s.w1.valid, .int .u64 (((s.w1.asid : Nat) : Int)), .bool s.w1.global, .int .i64 (s.w1.level), .int .u64 (((s.w1.vpn : Nat) : Int)), .int .u64 (((s.w1.ppn : Nat) : Int)), .bool s.w1.perm.r, .bool s.w1.perm.w, .bool s.w1.perm.x, .bool s.w1.perm.u, .bool s.w1.dirty, .bool s.w2.valid, .int .u64 (((s.w2.asid : Nat) : Int)), .bool s.w2.global, .int .i64 (s.w2.level), .int .u64 (((s.w2.vpn : Nat) : Int)), .int .u64 (((s.w2.ppn : Nat) : Int)), .bool s.w2.perm.r, .bool s.w2.perm.w, .bool s.w2.perm.x, .bool s.w2.perm.u, .bool s.w2.dirty, .bool s.w3.valid, .int .u64 (((s.w3.asid : Nat) : Int)), .bool s.w3.global, .int .i64 (s.w3.level), .int .u64 (((s.w3.vpn : Nat) : Int)), .int .u64 (((s.w3.ppn : Nat) : Int)), .bool s.w3.perm.r, .bool s.w3.perm.w, .bool s.w3.perm.x, .bool s.w3.perm.u, .bool s.w3.dirty])), (13, .int .i64 0)] ∧ SX.Own w0 w [(B0, .cells (D.Set.cs (D.Set.dropO s s e 0)) 279 (0, 0)), (B1, .cells (D.Entry.cs e) 270 (0, 0)), (B2, .cells (D.Set.cs (⟨(⟨false, 0, false, 0, 0, 0, (⟨false, false, false, false⟩ : D.Perm), false⟩ : D.Entry), (⟨false, 0, false, 0, 0, 0, (⟨false, false, false, false⟩ : D.Perm), false⟩ : D.Entry), (⟨false, 0, false, 0, 0, 0, (⟨false, false, false, false⟩ : D.Perm), false⟩ : D.Entry), (⟨false, 0, false, 0, 0, 0, (⟨false, false, false, false⟩ : D.Perm), false⟩ : D.Entry), 0⟩ : D.Set)) 279 (0, 0)), (B3, .cells (D.Entry.cs s.w0) 270 (0, 0))] (SX.roOf H)) ?_ ?_
 ·
  refine Xs (e.same s.w0) (fun h1 => ?_) fun h1 => ?_
  ·
   have A := A.rb 19 h1
   refine Xt A (XR (Xb [0, 0] A H fun ac w A H => Xc A H (sDrop_calls s 0 w ko) fun ac w A H => Xb [0] A H fun ac w A H => XD ?_))
   have H := H.re1 0 (SX.bb H 0) (fun q => .cells (D.Set.cs q) 279 (0, 0)) (show (D.Set.dropO s s e 0) = (D.Set.put s 0 D.Entry.zero) from if_pos h1)
   exact ⟨SX.bb H 0, SX.bb H 1, SX.bb H 2, SX.bb H 3, A.sub _ kr, H.pick [0, 1, 2, 3] _ kc kr⟩
  ·
   have A := A.rb 19 h1
   refine Xf A (XK ?_)
   have H := H.re1 0 (SX.bb H 0) (fun q => .cells (D.Set.cs q) 279 (0, 0)) (show (D.Set.dropO s s e 0) = s from if_neg (by rw [show e.same (s.way 0) = false from h1]; decide))
   exact ⟨SX.bb H 0, SX.bb H 1, SX.bb H 2, SX.bb H 3, A.sub _ kr, H.pick [0, 1, 2, 3] _ kc kr⟩
 rintro ac w ⟨B0, B1, B2, B3, A, H⟩
 refine XN (XT (XR (Xb [0, 0] A H fun ac w A H => XD (XT (XO (XS (XR (Xb [0] A H fun ac w A H => XD (XT (XS (Xt A (XK (XT (XS (XB (XS (XR (Xb [0, 0, 0, 0, 4] A H fun ac w A H => XD (XT (XS (XR (Xb [1, 4] A H fun ac w A H => Xc A H (Same_calls e s.w1 w) fun ac w A H => XD (XT ?_)))))))))))))))))))))))
 refine SX.cut (fun ac w => ∃ B0 B1 B2 B3 B4 : Nat, SX.Agrees 35 ac [(2, .int .i64 victim), (3, .pointer (some ⟨B0, 0, none⟩)), (4, .pointer (some ⟨B1, 0, none⟩)), (6, .pointer (some ⟨B2, 0, none⟩)), (7, .int .i64 0), (12, (.agg #[.bool s.w0.valid, .int .u64 (((s.w0.asid : Nat) : Int)), .bool s.w0.global, .int .i64 (s.w0.level), .int .u64 (((s.w0.vpn : Nat) : Int)), .int .u64 (((s.w0.ppn : Nat) : Int)), .bool s.w0.perm.r, .bool s.w0.perm.w, .bool s.w0.perm.x, .bool s.w0.perm.u, .bool s.w0.dirty, .bool s.w1.valid, .int .u64 (((s.w1.asid : Nat) : Int)), .bool s.w1.global, .int .i64 (s.w1.level), .int .u64 (((s.w1.vpn : Nat) : Int)), .int .u64 (((s.w1.ppn : Nat) : Int)), .bool s.w1.perm.r, .bool s.w1.perm.w, .bool s.w1.perm.x, .bool s.w1.perm.u, .bool s.w1.dirty, .bool s.w2.valid, .int .u64 (((s.w2.asid : Nat) : Int)), .bool s.w2.global, .int .i64 (s.w2.level), .int .u64 (((s.w2.vpn : Nat) : Int)), .int .u64 (((s.w2.ppn : Nat) : Int)), .bool s.w2.perm.r, .bool s.w2.perm.w, .bool s.w2.perm.x, .bool s.w2.perm.u, .bool s.w2.dirty, .bool s.w3.valid, .int .u64 (((s.w3.asid : Nat) : Int)), .bool s.w3.global, .int .i64 (s.w3.level), .int .u64 (((s.w3.vpn : Nat) : Int)), .int .u64 (((s.w3.ppn : Nat) : Int)), .bool s.w3.perm.r, .bool s.w3.perm.w, .bool s.w3.perm.x, .bool s.w3.perm.u, .bool s.w3.dirty])), (13, .int .i64 1)] ∧ SX.Own w0 w [(B0, .cells (D.Set.cs (D.Set.dropO s (D.Set.dropO s s e 0) e 1)) 279 (0, 0)), (B1, .cells (D.Entry.cs e) 270 (0, 0)), (B2, .cells (D.Set.cs (⟨(⟨false, 0, false, 0, 0, 0, (⟨false, false, false, false⟩ : D.Perm), false⟩ : D.Entry), (⟨false, 0, false, 0, 0, 0, (⟨false, false, false, false⟩ : D.Perm), false⟩ : D.Entry), (⟨false, 0, false, 0, 0, 0, (⟨false, false, false, false⟩ : D.Perm), false⟩ : D.Entry), (⟨false, 0, false, 0, 0, 0, (⟨false, false, false, false⟩ : D.Perm), false⟩ : D.Entry), 0⟩ : D.Set)) 279 (0, 0)), (B3, .cells (D.Entry.cs s.w0) 270 (0, 0)), (B4, .cells (D.Entry.cs s.w1) 270 (0, 0))] (SX.roOf H)) ?_ ?_
 ·
  refine Xs (e.same s.w1) (fun h2 => ?_) fun h2 => ?_
  ·
   have A := A.rb 19 h2
   refine Xt A (XR (Xb [0, 0] A H fun ac w A H => Xc A H (sDrop_calls (D.Set.dropO s s e 0) 1 w ko) fun ac w A H => Xb [0] A H fun ac w A H => XD ?_))
   have H := H.re1 0 (SX.bb H 0) (fun q => .cells (D.Set.cs q) 279 (0, 0)) (show (D.Set.dropO s (D.Set.dropO s s e 0) e 1) = (D.Set.put (D.Set.dropO s s e 0) 1 D.Entry.zero) from if_pos h2)
   exact ⟨SX.bb H 0, SX.bb H 1, SX.bb H 2, SX.bb H 3, SX.bb H 4, A.sub _ kr, H.pick [0, 1, 2, 3, 4] _ kc kr⟩
  ·
   have A := A.rb 19 h2
   refine Xf A (XK ?_)
   have H := H.re1 0 (SX.bb H 0) (fun q => .cells (D.Set.cs q) 279 (0, 0)) (show (D.Set.dropO s (D.Set.dropO s s e 0) e 1) = (D.Set.dropO s s e 0) from if_neg (by rw [show e.same (s.way 1) = false from h2]; decide))
   exact ⟨SX.bb H 0, SX.bb H 1, SX.bb H 2, SX.bb H 3, SX.bb H 4, A.sub _ kr, H.pick [0, 1, 2, 3, 4] _ kc kr⟩
 rintro ac w ⟨B0, B1, B2, B3, B4, A, H⟩
 refine XN (XT (XR (Xb [0, 0] A H fun ac w A H => XD (XT (XO (XS (XR (Xb [0] A H fun ac w A H => XD (XT (XS (Xt A (XK (XT (XS (XB (XS (XR (Xb [0, 0, 0, 0, 5] A H fun ac w A H => XD (XT (XS (XR (Xb [1, 5] A H fun ac w A H => Xc A H (Same_calls e s.w2 w) fun ac w A H => XD (XT ?_)))))))))))))))))))))))
 refine SX.cut (fun ac w => ∃ B0 B1 B2 B3 B4 B5 : Nat, SX.Agrees 35 ac [(2, .int .i64 victim), (3, .pointer (some ⟨B0, 0, none⟩)), (4, .pointer (some ⟨B1, 0, none⟩)), (6, .pointer (some ⟨B2, 0, none⟩)), (7, .int .i64 0), (12, (.agg #[.bool s.w0.valid, .int .u64 (((s.w0.asid : Nat) : Int)), .bool s.w0.global, .int .i64 (s.w0.level), .int .u64 (((s.w0.vpn : Nat) : Int)), .int .u64 (((s.w0.ppn : Nat) : Int)), .bool s.w0.perm.r, .bool s.w0.perm.w, .bool s.w0.perm.x, .bool s.w0.perm.u, .bool s.w0.dirty, .bool s.w1.valid, .int .u64 (((s.w1.asid : Nat) : Int)), .bool s.w1.global, .int .i64 (s.w1.level), .int .u64 (((s.w1.vpn : Nat) : Int)), .int .u64 (((s.w1.ppn : Nat) : Int)), .bool s.w1.perm.r, .bool s.w1.perm.w, .bool s.w1.perm.x, .bool s.w1.perm.u, .bool s.w1.dirty, .bool s.w2.valid, .int .u64 (((s.w2.asid : Nat) : Int)), .bool s.w2.global, .int .i64 (s.w2.level), .int .u64 (((s.w2.vpn : Nat) : Int)), .int .u64 (((s.w2.ppn : Nat) : Int)), .bool s.w2.perm.r, .bool s.w2.perm.w, .bool s.w2.perm.x, .bool s.w2.perm.u, .bool s.w2.dirty, .bool s.w3.valid, .int .u64 (((s.w3.asid : Nat) : Int)), .bool s.w3.global, .int .i64 (s.w3.level), .int .u64 (((s.w3.vpn : Nat) : Int)), .int .u64 (((s.w3.ppn : Nat) : Int)), .bool s.w3.perm.r, .bool s.w3.perm.w, .bool s.w3.perm.x, .bool s.w3.perm.u, .bool s.w3.dirty])), (13, .int .i64 2)] ∧ SX.Own w0 w [(B0, .cells (D.Set.cs (D.Set.dropO s (D.Set.dropO s (D.Set.dropO s s e 0) e 1) e 2)) 279 (0, 0)), (B1, .cells (D.Entry.cs e) 270 (0, 0)), (B2, .cells (D.Set.cs (⟨(⟨false, 0, false, 0, 0, 0, (⟨false, false, false, false⟩ : D.Perm), false⟩ : D.Entry), (⟨false, 0, false, 0, 0, 0, (⟨false, false, false, false⟩ : D.Perm), false⟩ : D.Entry), (⟨false, 0, false, 0, 0, 0, (⟨false, false, false, false⟩ : D.Perm), false⟩ : D.Entry), (⟨false, 0, false, 0, 0, 0, (⟨false, false, false, false⟩ : D.Perm), false⟩ : D.Entry), 0⟩ : D.Set)) 279 (0, 0)), (B3, .cells (D.Entry.cs s.w0) 270 (0, 0)), (B4, .cells (D.Entry.cs s.w1) 270 (0, 0)), (B5, .cells (D.Entry.cs s.w2) 270 (0, 0))] (SX.roOf H)) ?_ ?_
 ·
  refine Xs (e.same s.w2) (fun h3 => ?_) fun h3 => ?_
  ·
   have A := A.rb 19 h3
   refine Xt A (XR (Xb [0, 0] A H fun ac w A H => Xc A H (sDrop_calls (D.Set.dropO s (D.Set.dropO s s e 0) e 1) 2 w ko) fun ac w A H => Xb [0] A H fun ac w A H => XD ?_))
   have H := H.re1 0 (SX.bb H 0) (fun q => .cells (D.Set.cs q) 279 (0, 0)) (show (D.Set.dropO s (D.Set.dropO s (D.Set.dropO s s e 0) e 1) e 2) = (D.Set.put (D.Set.dropO s (D.Set.dropO s s e 0) e 1) 2 D.Entry.zero) from if_pos h3)
   exact ⟨SX.bb H 0, SX.bb H 1, SX.bb H 2, SX.bb H 3, SX.bb H 4, SX.bb H 5, A.sub _ kr, H.pick [0, 1, 2, 3, 4, 5] _ kc kr⟩
  ·
   have A := A.rb 19 h3
   refine Xf A (XK ?_)
   have H := H.re1 0 (SX.bb H 0) (fun q => .cells (D.Set.cs q) 279 (0, 0)) (show (D.Set.dropO s (D.Set.dropO s (D.Set.dropO s s e 0) e 1) e 2) = (D.Set.dropO s (D.Set.dropO s s e 0) e 1) from if_neg (by rw [show e.same (s.way 2) = false from h3]; decide))
   exact ⟨SX.bb H 0, SX.bb H 1, SX.bb H 2, SX.bb H 3, SX.bb H 4, SX.bb H 5, A.sub _ kr, H.pick [0, 1, 2, 3, 4, 5] _ kc kr⟩
 rintro ac w ⟨B0, B1, B2, B3, B4, B5, A, H⟩
 refine XN (XT (XR (Xb [0, 0] A H fun ac w A H => XD (XT (XO (XS (XR (Xb [0] A H fun ac w A H => XD (XT (XS (Xt A (XK (XT (XS (XB (XS (XR (Xb [0, 0, 0, 0, 6] A H fun ac w A H => XD (XT (XS (XR (Xb [1, 6] A H fun ac w A H => Xc A H (Same_calls e s.w3 w) fun ac w A H => XD (XT ?_)))))))))))))))))))))))
 refine SX.cut (fun ac w => ∃ B0 B1 B2 B3 B4 B5 B6 : Nat, SX.Agrees 35 ac [(2, .int .i64 victim), (3, .pointer (some ⟨B0, 0, none⟩)), (4, .pointer (some ⟨B1, 0, none⟩)), (6, .pointer (some ⟨B2, 0, none⟩)), (7, .int .i64 0), (12, (.agg #[.bool s.w0.valid, .int .u64 (((s.w0.asid : Nat) : Int)), .bool s.w0.global, .int .i64 (s.w0.level), .int .u64 (((s.w0.vpn : Nat) : Int)), .int .u64 (((s.w0.ppn : Nat) : Int)), .bool s.w0.perm.r, .bool s.w0.perm.w, .bool s.w0.perm.x, .bool s.w0.perm.u, .bool s.w0.dirty, .bool s.w1.valid, .int .u64 (((s.w1.asid : Nat) : Int)), .bool s.w1.global, .int .i64 (s.w1.level), .int .u64 (((s.w1.vpn : Nat) : Int)), .int .u64 (((s.w1.ppn : Nat) : Int)), .bool s.w1.perm.r, .bool s.w1.perm.w, .bool s.w1.perm.x, .bool s.w1.perm.u, .bool s.w1.dirty, .bool s.w2.valid, .int .u64 (((s.w2.asid : Nat) : Int)), .bool s.w2.global, .int .i64 (s.w2.level), .int .u64 (((s.w2.vpn : Nat) : Int)), .int .u64 (((s.w2.ppn : Nat) : Int)), .bool s.w2.perm.r, .bool s.w2.perm.w, .bool s.w2.perm.x, .bool s.w2.perm.u, .bool s.w2.dirty, .bool s.w3.valid, .int .u64 (((s.w3.asid : Nat) : Int)), .bool s.w3.global, .int .i64 (s.w3.level), .int .u64 (((s.w3.vpn : Nat) : Int)), .int .u64 (((s.w3.ppn : Nat) : Int)), .bool s.w3.perm.r, .bool s.w3.perm.w, .bool s.w3.perm.x, .bool s.w3.perm.u, .bool s.w3.dirty])), (13, .int .i64 3)] ∧ SX.Own w0 w [(B0, .cells (D.Set.cs (D.Set.dropO s (D.Set.dropO s (D.Set.dropO s (D.Set.dropO s s e 0) e 1) e 2) e 3)) 279 (0, 0)), (B1, .cells (D.Entry.cs e) 270 (0, 0)), (B2, .cells (D.Set.cs (⟨(⟨false, 0, false, 0, 0, 0, (⟨false, false, false, false⟩ : D.Perm), false⟩ : D.Entry), (⟨false, 0, false, 0, 0, 0, (⟨false, false, false, false⟩ : D.Perm), false⟩ : D.Entry), (⟨false, 0, false, 0, 0, 0, (⟨false, false, false, false⟩ : D.Perm), false⟩ : D.Entry), (⟨false, 0, false, 0, 0, 0, (⟨false, false, false, false⟩ : D.Perm), false⟩ : D.Entry), 0⟩ : D.Set)) 279 (0, 0)), (B3, .cells (D.Entry.cs s.w0) 270 (0, 0)), (B4, .cells (D.Entry.cs s.w1) 270 (0, 0)), (B5, .cells (D.Entry.cs s.w2) 270 (0, 0)), (B6, .cells (D.Entry.cs s.w3) 270 (0, 0))] (SX.roOf H)) ?_ ?_
 ·
  refine Xs (e.same s.w3) (fun h4 => ?_) fun h4 => ?_
  ·
   have A := A.rb 19 h4
   refine Xt A (XR (Xb [0, 0] A H fun ac w A H => Xc A H (sDrop_calls (D.Set.dropO s (D.Set.dropO s (D.Set.dropO s s e 0) e 1) e 2) 3 w ko) fun ac w A H => Xb [0] A H fun ac w A H => XD ?_))
   have H := H.re1 0 (SX.bb H 0) (fun q => .cells (D.Set.cs q) 279 (0, 0)) (show (D.Set.dropO s (D.Set.dropO s (D.Set.dropO s (D.Set.dropO s s e 0) e 1) e 2) e 3) = (D.Set.put (D.Set.dropO s (D.Set.dropO s (D.Set.dropO s s e 0) e 1) e 2) 3 D.Entry.zero) from if_pos h4)
   exact ⟨SX.bb H 0, SX.bb H 1, SX.bb H 2, SX.bb H 3, SX.bb H 4, SX.bb H 5, SX.bb H 6, A.sub _ kr, H.pick [0, 1, 2, 3, 4, 5, 6] _ kc kr⟩
  ·
   have A := A.rb 19 h4
   refine Xf A (XK ?_)
   have H := H.re1 0 (SX.bb H 0) (fun q => .cells (D.Set.cs q) 279 (0, 0)) (show (D.Set.dropO s (D.Set.dropO s (D.Set.dropO s (D.Set.dropO s s e 0) e 1) e 2) e 3) = (D.Set.dropO s (D.Set.dropO s (D.Set.dropO s s e 0) e 1) e 2) from if_neg (by rw [show e.same (s.way 3) = false from h4]; decide))
   exact ⟨SX.bb H 0, SX.bb H 1, SX.bb H 2, SX.bb H 3, SX.bb H 4, SX.bb H 5, SX.bb H 6, A.sub _ kr, H.pick [0, 1, 2, 3, 4, 5, 6] _ kc kr⟩
 rintro ac w ⟨B0, B1, B2, B3, B4, B5, B6, A, H⟩
 refine XN (XT (XR (Xb [0, 0] A H fun ac w A H => XD (XT (XO (XS (XR (Xb [0] A H fun ac w A H => XD (XT (XS (Xf A (XI (XX (XX (XE (XT (XS (XR (Xb [0, 0] A H fun ac w A H => Xc A H (goes_calls (D.Set.dropO s (D.Set.dropO s (D.Set.dropO s (D.Set.dropO s s e 0) e 1) e 2) e 3) victim w) fun ac w A H => Xb [0] A H fun ac w A H => XD (XT (XS (XR ?_))))))))))))))))))))))
 rcases (show (D.Set.dropO s (D.Set.dropO s (D.Set.dropO s (D.Set.dropO s s e 0) e 1) e 2) e 3).goes victim = 0 ∨ (D.Set.dropO s (D.Set.dropO s (D.Set.dropO s (D.Set.dropO s s e 0) e 1) e 2) e 3).goes victim = 1 ∨ (D.Set.dropO s (D.Set.dropO s (D.Set.dropO s (D.Set.dropO s s e 0) e 1) e 2) e 3).goes victim = 2 ∨ (D.Set.dropO s (D.Set.dropO s (D.Set.dropO s (D.Set.dropO s s e 0) e 1) e 2) e 3).goes victim = 3 from by have := D.Set.goes_bd (s.clean e) victim; simp only [D.Set.clean] at this; omega) with hg | hg | hg | hg
 ·
  have A := A.re 10 (.int .i64 ((D.Set.dropO s (D.Set.dropO s (D.Set.dropO s (D.Set.dropO s s e 0) e 1) e 2) e 3).goes victim)) (.int .i64 0) kr (by rw [hg])
  refine Xb [0, 1, 0, 0, 0] A H fun ac w A H => XD (XT (XS (XR (Xb [0, 0] A H fun ac w A H => Xc A H (sUse_calls (⟨e, (D.Set.dropO s (D.Set.dropO s (D.Set.dropO s (D.Set.dropO s s e 0) e 1) e 2) e 3).w1, (D.Set.dropO s (D.Set.dropO s (D.Set.dropO s (D.Set.dropO s s e 0) e 1) e 2) e 3).w2, (D.Set.dropO s (D.Set.dropO s (D.Set.dropO s (D.Set.dropO s s e 0) e 1) e 2) e 3).w3, (D.Set.dropO s (D.Set.dropO s (D.Set.dropO s (D.Set.dropO s s e 0) e 1) e 2) e 3).tree⟩ : D.Set) 0 w (hL.below H.below) ko) fun ac w A H => Xb [0, 2, 0] A H fun ac w A H => XD (XT (XW (Xr [2, 0] ((.tuple #[(D.Set.enc ((⟨e, (D.Set.dropO s (D.Set.dropO s (D.Set.dropO s (D.Set.dropO s s e 0) e 1) e 2) e 3).w1, (D.Set.dropO s (D.Set.dropO s (D.Set.dropO s (D.Set.dropO s s e 0) e 1) e 2) e 3).w2, (D.Set.dropO s (D.Set.dropO s (D.Set.dropO s (D.Set.dropO s s e 0) e 1) e 2) e 3).w3, (D.Set.dropO s (D.Set.dropO s (D.Set.dropO s (D.Set.dropO s s e 0) e 1) e 2) e 3).tree⟩ : D.Set).use 0)), .int .i64 0])) A H ?_)))))))
  simp only [D.Set.ins, D.Set.clean, hg]
  rfl
 ·
  have A := A.re 10 (.int .i64 ((D.Set.dropO s (D.Set.dropO s (D.Set.dropO s (D.Set.dropO s s e 0) e 1) e 2) e 3).goes victim)) (.int .i64 1) kr (by rw [hg])
  refine Xb [0, 1, 0, 0, 0] A H fun ac w A H => XD (XT (XS (XR (Xb [0, 0] A H fun ac w A H => Xc A H (sUse_calls (⟨(D.Set.dropO s (D.Set.dropO s (D.Set.dropO s (D.Set.dropO s s e 0) e 1) e 2) e 3).w0, e, (D.Set.dropO s (D.Set.dropO s (D.Set.dropO s (D.Set.dropO s s e 0) e 1) e 2) e 3).w2, (D.Set.dropO s (D.Set.dropO s (D.Set.dropO s (D.Set.dropO s s e 0) e 1) e 2) e 3).w3, (D.Set.dropO s (D.Set.dropO s (D.Set.dropO s (D.Set.dropO s s e 0) e 1) e 2) e 3).tree⟩ : D.Set) 1 w (hL.below H.below) ko) fun ac w A H => Xb [0, 2, 0] A H fun ac w A H => XD (XT (XW (Xr [2, 0] ((.tuple #[(D.Set.enc ((⟨(D.Set.dropO s (D.Set.dropO s (D.Set.dropO s (D.Set.dropO s s e 0) e 1) e 2) e 3).w0, e, (D.Set.dropO s (D.Set.dropO s (D.Set.dropO s (D.Set.dropO s s e 0) e 1) e 2) e 3).w2, (D.Set.dropO s (D.Set.dropO s (D.Set.dropO s (D.Set.dropO s s e 0) e 1) e 2) e 3).w3, (D.Set.dropO s (D.Set.dropO s (D.Set.dropO s (D.Set.dropO s s e 0) e 1) e 2) e 3).tree⟩ : D.Set).use 1)), .int .i64 1])) A H ?_)))))))
  simp only [D.Set.ins, D.Set.clean, hg]
  rfl
 ·
  have A := A.re 10 (.int .i64 ((D.Set.dropO s (D.Set.dropO s (D.Set.dropO s (D.Set.dropO s s e 0) e 1) e 2) e 3).goes victim)) (.int .i64 2) kr (by rw [hg])
  refine Xb [0, 1, 0, 0, 0] A H fun ac w A H => XD (XT (XS (XR (Xb [0, 0] A H fun ac w A H => Xc A H (sUse_calls (⟨(D.Set.dropO s (D.Set.dropO s (D.Set.dropO s (D.Set.dropO s s e 0) e 1) e 2) e 3).w0, (D.Set.dropO s (D.Set.dropO s (D.Set.dropO s (D.Set.dropO s s e 0) e 1) e 2) e 3).w1, e, (D.Set.dropO s (D.Set.dropO s (D.Set.dropO s (D.Set.dropO s s e 0) e 1) e 2) e 3).w3, (D.Set.dropO s (D.Set.dropO s (D.Set.dropO s (D.Set.dropO s s e 0) e 1) e 2) e 3).tree⟩ : D.Set) 2 w (hL.below H.below) ko) fun ac w A H => Xb [0, 2, 0] A H fun ac w A H => XD (XT (XW (Xr [2, 0] ((.tuple #[(D.Set.enc ((⟨(D.Set.dropO s (D.Set.dropO s (D.Set.dropO s (D.Set.dropO s s e 0) e 1) e 2) e 3).w0, (D.Set.dropO s (D.Set.dropO s (D.Set.dropO s (D.Set.dropO s s e 0) e 1) e 2) e 3).w1, e, (D.Set.dropO s (D.Set.dropO s (D.Set.dropO s (D.Set.dropO s s e 0) e 1) e 2) e 3).w3, (D.Set.dropO s (D.Set.dropO s (D.Set.dropO s (D.Set.dropO s s e 0) e 1) e 2) e 3).tree⟩ : D.Set).use 2)), .int .i64 2])) A H ?_)))))))
  simp only [D.Set.ins, D.Set.clean, hg]
  rfl
 ·
  have A := A.re 10 (.int .i64 ((D.Set.dropO s (D.Set.dropO s (D.Set.dropO s (D.Set.dropO s s e 0) e 1) e 2) e 3).goes victim)) (.int .i64 3) kr (by rw [hg])
  refine Xb [0, 1, 0, 0, 0] A H fun ac w A H => XD (XT (XS (XR (Xb [0, 0] A H fun ac w A H => Xc A H (sUse_calls (⟨(D.Set.dropO s (D.Set.dropO s (D.Set.dropO s (D.Set.dropO s s e 0) e 1) e 2) e 3).w0, (D.Set.dropO s (D.Set.dropO s (D.Set.dropO s (D.Set.dropO s s e 0) e 1) e 2) e 3).w1, (D.Set.dropO s (D.Set.dropO s (D.Set.dropO s (D.Set.dropO s s e 0) e 1) e 2) e 3).w2, e, (D.Set.dropO s (D.Set.dropO s (D.Set.dropO s (D.Set.dropO s s e 0) e 1) e 2) e 3).tree⟩ : D.Set) 3 w (hL.below H.below) ko) fun ac w A H => Xb [0, 2, 0] A H fun ac w A H => XD (XT (XW (Xr [2, 0] ((.tuple #[(D.Set.enc ((⟨(D.Set.dropO s (D.Set.dropO s (D.Set.dropO s (D.Set.dropO s s e 0) e 1) e 2) e 3).w0, (D.Set.dropO s (D.Set.dropO s (D.Set.dropO s (D.Set.dropO s s e 0) e 1) e 2) e 3).w1, (D.Set.dropO s (D.Set.dropO s (D.Set.dropO s (D.Set.dropO s s e 0) e 1) e 2) e 3).w2, e, (D.Set.dropO s (D.Set.dropO s (D.Set.dropO s (D.Set.dropO s s e 0) e 1) e 2) e 3).tree⟩ : D.Set).use 3)), .int .i64 3])) A H ?_)))))))
  simp only [D.Set.ins, D.Set.clean, hg]
  rfl
end Go.Proofs.YtfkmcdkncmapmaaGreatDoor
