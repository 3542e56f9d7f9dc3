/- Walks of functions, written by the session's own program wip/sx/sxgen.py; Lean checks them. -/
import Derived.Test.YtfkmcdkncmapmaaGreatDoorY02
import Derived.Test.YtfkmcdkncmapmaaGreatDoorY24
import Derived.Test.YtfkmcdkncmapmaaGreatDoorProg
import Derived.Test.YtfkmcdkncmapmaaGreatDoorY17
set_option linter.unusedVariables false
set_option linter.unusedSimpArgs false
set_option maxRecDepth 100000
set_option maxHeartbeats 2000000
namespace Go.Proofs.YtfkmcdkncmapmaaGreatDoor
open Go Go.RowKit
namespace D
def Space.zero : Space := ⟨0, 0, false⟩
def Kernel.sp (k : Kernel) (id : Int) : Space := (k.spaces[id.toNat]?).getD Space.zero
def Kernel.lives (k : Kernel) (id : Int) : Bool := decide (0 ≤ id) && (decide (id < (k.spaces.length : Int)) && (k.sp id).live)
theorem lives_lt {k : Kernel} {id : Int} (h : k.lives id = true) : 0 ≤ id ∧ id.toNat < k.spaces.length := by
 simp [Kernel.lives] at h; omega
structure KErr where
 k : Kernel
 err : Int
def Kernel.withS (k : Kernel) (now : Int) (s : Satp) : Kernel := ⟨k.conf, k.mem, ⟨k.hart.tlb, s, k.hart.priv, k.hart.sum, k.hart.mxr, k.hart.victim⟩, k.pool, k.asids, k.spaces, now, k.shared, k.fences⟩
def switchN (k : Kernel) (id : Int) : KErr :=
 if id = -1 then ⟨k.withS (-1) ⟨0, 0, 0⟩, 0⟩ else if k.lives id = false then ⟨k, 4⟩ else ⟨k.withS id ⟨8, (k.sp id).asid, (k.sp id).root⟩, 0⟩
structure Place where
 top : Nat
 lv : Nat
 err : Int
def whereB (V A L F B T : Bool) (sh rt : Nat) : Place :=
 if V = false then ⟨0, 0, 1⟩ else if (!A && !L) = true then ⟨0, 0, 4⟩ else if F = false then ⟨0, 0, 2⟩
 else if ((A != B) || (A && T)) = true then ⟨0, 0, 3⟩ else if A = true then ⟨sh, 1, 0⟩ else ⟨rt, 2, 0⟩
def whereN (k : Kernel) (id : Int) (addr : Nat) (level : Int) : Place :=
 whereB (within level 0 2) (id == (-1)) (k.lives id) (isN addr && decide (offsetN addr level = 0)) (((indexN addr 2 : Nat) : Int) == 511) (level == 2) k.shared (k.sp id).root
end D
theorem lives_calls (k : D.Kernel) (id : Int)  {no : List Nat} (s1 s2 s3 s4 : SX.Sl) (w0 : World) (hno : ∀ b ∈ no, b < w0.heap.size) (hs1 : (D.memF s1 k.mem.f).P w0 no) (hs2 : (D.tlbF s2 k.hart.tlb.sets).P w0 no) (hs3 : (D.spsF s3 k.spaces).P w0 no) (hs4 : (D.fnsF s4 k.fences).P w0 no) : SX.Gives Tryz.prog 40 #[(D.Kernel.enc k s1 s2 s3 s4), .int .i64 id] w0 (.bool (k.lives id)) := by
 refine SX.enterN (args := [(D.Kernel.enc k s1 s2 s3 s4), .int .i64 id]) (hno := hno) 22 Tryz.func40 rfl kr fun ac A H => ?_
 have H := H.known (D.memF s1 k.mem.f) hs1
 have H := H.known (D.tlbF s2 k.hart.tlb.sets) hs2
 have H := H.known (D.spsF s3 k.spaces) hs3
 have H := H.known (D.fnsF s4 k.fences) hs4
 refine XS (XR (Xb [0, 0] A H fun ac w A H => XD (XT (XS (XR (Xb [0, 0, 0] A H fun ac w A H => ?_))))))
 refine Xs (decide (id ≥ 0)) (fun h1 => ?_) fun h1 => ?_
 ·
  have A := A.rb 7 h1
  have h1p : id ≥ 0 := kp h1
  refine Xb [0, 0, 0, 0] A H fun ac w A H => ?_
  have A := A.re 11 (.int .i64 (((s3.n : Nat) : Int))) (.int .i64 (((k.spaces.length : Nat) : Int))) kr (by rw [SX.SlAt.count D.Space.len kc (H.fact' 1 (D.spsF s3 k.spaces) kr)])
  refine Xb [0, 0, 0] A H fun ac w A H => ?_
  refine Xs (decide (id < ((k.spaces.length : Nat) : Int))) (fun h2 => ?_) fun h2 => ?_
  ·
   have A := A.rb 14 h2
   have h2p : id < ((k.spaces.length : Nat) : Int) := kp h2
   refine Xb [0, 0, 0] A H fun ac w A H => ?_
   have A := A.re 17 (.int .i64 id) (.int .i64 (((id.toNat : Nat) : Int))) kr (by rw [Int.toNat_of_nonneg ko])
   obtain ⟨e1, he1⟩ := SX.get_of_lt (l := k.spaces) (i := id.toNat) ko
   refine SX.given A (SX.run_idx (P := Tryz.prog) (H.fact' 1 (D.spsF s3 k.spaces) kr) (T := 42) (E := 80) (k := .i64) (i := id.toNat) Tryz.underlying42 kr (by rw [SX.SlAt.count D.Space.len kc (H.fact' 1 (D.spsF s3 k.spaces) kr)]; exact (List.getElem?_eq_some_iff.1 he1).1)) kr kr fun ac A => ?_
   refine Xb [0] A H fun ac w A H => SX.given A (SX.run_load1 (P := Tryz.prog) (T := 4) (b := s3.blk) (o := s3.off + id.toNat * 3 + 2) (v := .bool e1.live) kr (SX.SlAt.elem (f := D.Space.cells) D.Space.len (H.fact' 1 (D.spsF s3 k.spaces) kr) he1 (k := 2) (Nat.lt_of_lt_of_eq (m := 3) kc rfl))) kr kr fun ac A => Xb [0, 0] A H fun ac w A H => XD (XT (XW (Xr [0] (.bool e1.live) A H (congrArg Value.bool ?_))))
   first | (simp [D.Kernel.lives, D.Kernel.sp, h1, h2, he1]; done) | (simp [D.Kernel.lives, D.Kernel.sp, h1, h2, he1]; omega) | (simp_all [D.Kernel.lives, D.Kernel.sp]; done)
  ·
   have A := A.rb 14 h2
   have h2p : ¬ (id < ((k.spaces.length : Nat) : Int)) := kp h2
   refine Xb [0, 0, 0, 0, 0, 0, 0, 0] A H fun ac w A H => XD (XT (XW (Xr [0] (.bool false) A H (congrArg Value.bool ?_))))
   first | (simp [D.Kernel.lives, D.Kernel.sp, h1, h2]; done) | (simp [D.Kernel.lives, D.Kernel.sp, h1, h2]; omega) | (simp_all [D.Kernel.lives, D.Kernel.sp]; done)
 ·
  have A := A.rb 7 h1
  have h1p : ¬ (id ≥ 0) := kp h1
  refine Xb [0, 0, 0, 0, 0, 0, 0, 0, 0, 0, 0, 0, 0, 0, 0] A H fun ac w A H => XD (XT (XW (Xr [0] (.bool false) A H (congrArg Value.bool ?_))))
  first | (simp [D.Kernel.lives, D.Kernel.sp, h1]; done) | (simp [D.Kernel.lives, D.Kernel.sp, h1]; omega) | (simp_all [D.Kernel.lives, D.Kernel.sp]; done)
theorem Switch_calls (k : D.Kernel) (id : Int)  {no : List Nat} (s1 s2 s3 s4 : SX.Sl) (w0 : World) (hno : ∀ b ∈ no, b < w0.heap.size) (hs1 : (D.memF s1 k.mem.f).P w0 no) (hs2 : (D.tlbF s2 k.hart.tlb.sets).P w0 no) (hs3 : (D.spsF s3 k.spaces).P w0 no) (hs4 : (D.fnsF s4 k.fences).P w0 no) : SX.Rets Tryz.prog 15 #[(D.Kernel.enc k s1 s2 s3 s4), .int .i64 id] w0 (fun r_ w => ∃ y1 y2 y3 y4 : SX.Sl, r_ = (.tuple #[(D.Kernel.enc ((D.switchN k id).k) y1 y2 y3 y4), .int .i64 ((D.switchN k id).err)]) ∧ (D.memF y1 (((D.switchN k id).k).mem.f)).P w no ∧ (D.tlbF y2 (((D.switchN k id).k).hart.tlb.sets)).P w no ∧ (D.spsF y3 (((D.switchN k id).k).spaces)).P w no ∧ (D.fnsF y4 (((D.switchN k id).k).fences)).P w no) := by
 refine SX.enterN (args := [(D.Kernel.enc k s1 s2 s3 s4), .int .i64 id]) (hno := hno) 37 Tryz.func15 rfl kr fun ac A H => ?_
 have H := H.known (D.memF s1 k.mem.f) hs1
 have H := H.known (D.tlbF s2 k.hart.tlb.sets) hs2
 have H := H.known (D.spsF s3 k.spaces) hs3
 have H := H.known (D.fnsF s4 k.fences) hs4
 refine XS (XR (Xb [0, 0, 0] A H fun ac w A H => XD (XT (XS (XB (XS (XR (Xb [0, 0, 0] A H fun ac w A H => XD (XT ?_)))))))))
 refine Xs (id == (-1)) (fun h1 => ?_) fun h1 => ?_
 ·
  have A := A.rb 23 h1
  have h1p : id = (-1) := kp h1
  refine Xt A (XR (Xb [0, 0, 0, 0, 0, 0] A H fun ac w A H => XD (XN (XT (XS (XR (Xb [0, 1, 0] A H fun ac w A H => XD (XT (XW (Xr [1, 0] ((.tuple #[(D.Kernel.enc (⟨k.conf, k.mem, (⟨k.hart.tlb, (⟨0, 0, 0⟩ : D.Satp), k.hart.priv, k.hart.sum, k.hart.mxr, k.hart.victim⟩ : D.Hart), k.pool, k.asids, k.spaces, (-1), k.shared, k.fences⟩ : D.Kernel) s1 s2 s3 s4), .int .i64 0])) A H ?_))))))))))
  have hf : D.switchN k id = ⟨k.withS (-1) ⟨0, 0, 0⟩, 0⟩ := by rw [D.switchN, if_pos (by simpa using h1)]
  refine ⟨s1, s2, s3, s4, ?_, (by rw [hf]; exact (H.out 3 (D.memF s1 k.mem.f) kr)), (by rw [hf]; exact (H.out 2 (D.tlbF s2 k.hart.tlb.sets) kr)), (by rw [hf]; exact (H.out 1 (D.spsF s3 k.spaces) kr)), (by rw [hf]; exact (H.out 0 (D.fnsF s4 k.fences) kr))⟩
  rw [hf] <;> rfl
 ·
  have A := A.rb 23 h1
  have h1p : ¬ (id = (-1)) := kp h1
  refine Xf A (XS (XR (Xb [0, 0] A H fun ac w A H => Xc A H (lives_calls k id s1 s2 s3 s4 w H.nos_lt (H.fact' 3 (D.memF s1 k.mem.f) kr) (H.fact' 2 (D.tlbF s2 k.hart.tlb.sets) kr) (H.fact' 1 (D.spsF s3 k.spaces) kr) (H.fact' 0 (D.fnsF s4 k.fences) kr)) fun ac w A H => Xb [0, 0] A H fun ac w A H => XD (XT ?_))))
  refine Xs (k.lives id) (fun h2 => ?_) fun h2 => ?_
  ·
   have A := A.re 30 (.bool (!(k.lives id))) (.bool false) kr (by rw [h2]; rfl)
   refine Xf A ?_
   obtain ⟨e1, he1⟩ := SX.get_of_lt (l := k.spaces) (i := id.toNat) ((D.lives_lt (by assumption)).2)
   refine SX.drawn 19 [] kr A H fun w H => SX.takes [] [(0, none), (1, none), (3, none), (7, none), (9, none)] A H kr kd kr kr kr (Or.inl kr) fun ac A => ?_
   let B0 := SX.bb H 0
   let B1 := SX.bb H 1
   refine SX.joinD (fun ac w => SX.Agrees 37 ac [(2, .pointer (some ⟨B0, 0, none⟩)), (4, .pointer (some ⟨B1, 0, none⟩)), (5, .int .i64 0), (6, .int .i64 id), (19, (D.Satp.enc (⟨8, e1.asid, e1.root⟩ : D.Satp))), (20, .pointer (some ⟨B0, 21, none⟩))] ∧ SX.Own w0 w [(B0, .cells (D.Kernel.cs k s1 s2 s3 s4) 45 (0, 0)), (B1, .cells (D.Kernel.cs (⟨(⟨0, 0, 0, 0⟩ : D.Conf), (⟨0, (fun _ => 0)⟩ : D.Mem), (⟨(⟨[]⟩ : D.Tlb), (⟨0, 0, 0⟩ : D.Satp), 0, false, false, 0⟩ : D.Hart), (⟨0, 0, 0⟩ : D.Pool), (⟨0, 0, 0⟩ : D.Asids), [], 0, 0, []⟩ : D.Kernel) SX.Sl.nil SX.Sl.nil SX.Sl.nil SX.Sl.nil) 45 (0, 0))] ⟨[(D.fnsF s4 k.fences), (D.spsF s3 k.spaces), (D.tlbF s2 k.hart.tlb.sets), (D.memF s1 k.mem.f)], (SX.roOf H).fb, (SX.roOf H).no⟩) 4 (SX.msk 19 32767) ?_ (fun hJ1 => ?_)
   · rintro ac w ⟨A, H⟩
     refine SX.act 15 0 [] A H kr kr kr (Or.inl kr) fun ac w A H => SX.takes [] [(16, none), (17, none)] A H kr kd kr kr kr (Or.inl kr) fun ac A => SX.act 18 0 [] A H kr kr kr (Or.inl kr) fun ac w A H => ?_
     refine SX.doneD kr ?_ _
     refine XN (XT (XS (XR (Xb [0, 1, 0] A H fun ac w A H => XD (XT (XW (Xr [1, 0] ((.tuple #[(D.Kernel.enc (⟨k.conf, k.mem, (⟨k.hart.tlb, (⟨8, e1.asid, e1.root⟩ : D.Satp), k.hart.priv, k.hart.sum, k.hart.mxr, k.hart.victim⟩ : D.Hart), k.pool, k.asids, k.spaces, id, k.shared, k.fences⟩ : D.Kernel) s1 s2 s3 s4), .int .i64 0])) A H ?_)))))))
     have hf : D.switchN k id = ⟨k.withS id ⟨8, e1.asid, e1.root⟩, 0⟩ := by rw [D.switchN, if_neg (by simpa using h1), if_neg (by rw [h2]; decide), D.Kernel.sp, he1]; rfl
     refine ⟨s1, s2, s3, s4, ?_, (by rw [hf]; exact (H.out 3 (D.memF s1 k.mem.f) kr)), (by rw [hf]; exact (H.out 2 (D.tlbF s2 k.hart.tlb.sets) kr)), (by rw [hf]; exact (H.out 1 (D.spsF s3 k.spaces) kr)), (by rw [hf]; exact (H.out 0 (D.fnsF s4 k.fences) kr))⟩
     rw [hf] <;> rfl
   refine SX.many 2 [8] kr kr (SX.allC_cons ?_ (SX.allC_cons ?_ SX.allC_nil))
   ·
    refine SX.act_op 2 0 [] A H kr (Or.inl kr) fun ac w A H => ?_
    have A := A.re 9 (.int .i64 id) (.int .i64 (((id.toNat : Nat) : Int))) kr (by rw [Int.toNat_of_nonneg ((D.lives_lt (by assumption)).1)])
    refine SX.takeG 4 [] A H kr kd (fun w HK => SX.run_idx (P := Tryz.prog) (HK.fact 1 (D.spsF s3 k.spaces) kr) (T := 42) (E := 80) (k := .i64) (i := id.toNat) Tryz.underlying42 kr (by rw [SX.SlAt.count D.Space.len kc (HK.fact 1 (D.spsF s3 k.spaces) kr)]; exact (List.getElem?_eq_some_iff.1 he1).1)) kr kr kr kr kr fun ac A => ?_
    refine SX.takes [] [(5, none)] A H kr kd kr kr kr (Or.inl kr) fun ac A => SX.takeG 6 [] A H kr kd (fun w HK => SX.run_load1 (P := Tryz.prog) (T := 27) (b := s3.blk) (o := s3.off + id.toNat * 3 + 1) (v := .int .u64 (((e1.asid : Nat) : Int))) kr (SX.SlAt.elem (f := D.Space.cells) D.Space.len (HK.fact 1 (D.spsF s3 k.spaces) kr) he1 (k := 1) (Nat.lt_of_lt_of_eq (m := 3) kc rfl))) kr kr kr kr kr fun ac A => SX.act 8 0 [] A H kr kr kr (Or.inl kr) fun ac w A H => ?_
    have A := A.re 15 (.int .i64 id) (.int .i64 (((id.toNat : Nat) : Int))) kr (by rw [Int.toNat_of_nonneg ((D.lives_lt (by assumption)).1)])
    refine SX.takeG 10 [] A H kr kd (fun w HK => SX.run_idx (P := Tryz.prog) (HK.fact 1 (D.spsF s3 k.spaces) kr) (T := 42) (E := 80) (k := .i64) (i := id.toNat) Tryz.underlying42 kr (by rw [SX.SlAt.count D.Space.len kc (HK.fact 1 (D.spsF s3 k.spaces) kr)]; exact (List.getElem?_eq_some_iff.1 he1).1)) kr kr kr kr kr fun ac A => ?_
    refine SX.takes [] [(11, none)] A H kr kd kr kr kr (Or.inl kr) fun ac A => SX.takeG 12 [] A H kr kd (fun w HK => SX.run_load1 (P := Tryz.prog) (T := 27) (b := s3.blk) (o := s3.off + id.toNat * 3) (v := .int .u64 (((e1.root : Nat) : Int))) kr (SX.SlAt.elem (f := D.Space.cells) D.Space.len (HK.fact 1 (D.spsF s3 k.spaces) kr) he1 (k := 0) (Nat.lt_of_lt_of_eq (m := 3) kc rfl))) kr kr kr kr kr fun ac A => SX.takes [] [(13, none), (14, none)] A H kr kd kr kr kr (Or.inl kr) fun ac A => ?_
    exact SX.useD hJ1 kr kr ⟨A.sub _ kr, (H.pick [0, 1] _ kc kr).ro_pick [0, 1, 2, 3] _ kr⟩
   ·
    refine SX.act_op 8 0 [] A H kr (Or.inl kr) fun ac w A H => ?_
    have A := A.re 15 (.int .i64 id) (.int .i64 (((id.toNat : Nat) : Int))) kr (by rw [Int.toNat_of_nonneg ((D.lives_lt (by assumption)).1)])
    refine SX.takeG 10 [] A H kr kd (fun w HK => SX.run_idx (P := Tryz.prog) (HK.fact 1 (D.spsF s3 k.spaces) kr) (T := 42) (E := 80) (k := .i64) (i := id.toNat) Tryz.underlying42 kr (by rw [SX.SlAt.count D.Space.len kc (HK.fact 1 (D.spsF s3 k.spaces) kr)]; exact (List.getElem?_eq_some_iff.1 he1).1)) kr kr kr kr kr fun ac A => ?_
    refine SX.takes [] [(11, none)] A H kr kd kr kr kr (Or.inl kr) fun ac A => SX.takeG 12 [] A H kr kd (fun w HK => SX.run_load1 (P := Tryz.prog) (T := 27) (b := s3.blk) (o := s3.off + id.toNat * 3) (v := .int .u64 (((e1.root : Nat) : Int))) kr (SX.SlAt.elem (f := D.Space.cells) D.Space.len (HK.fact 1 (D.spsF s3 k.spaces) kr) he1 (k := 0) (Nat.lt_of_lt_of_eq (m := 3) kc rfl))) kr kr kr kr kr fun ac A => SX.act 2 0 [] A H kr kr kr (Or.inl kr) fun ac w A H => ?_
    have A := A.re 9 (.int .i64 id) (.int .i64 (((id.toNat : Nat) : Int))) kr (by rw [Int.toNat_of_nonneg ((D.lives_lt (by assumption)).1)])
    refine SX.takeG 4 [] A H kr kd (fun w HK => SX.run_idx (P := Tryz.prog) (HK.fact 1 (D.spsF s3 k.spaces) kr) (T := 42) (E := 80) (k := .i64) (i := id.toNat) Tryz.underlying42 kr (by rw [SX.SlAt.count D.Space.len kc (HK.fact 1 (D.spsF s3 k.spaces) kr)]; exact (List.getElem?_eq_some_iff.1 he1).1)) kr kr kr kr kr fun ac A => ?_
    refine SX.takes [] [(5, none)] A H kr kd kr kr kr (Or.inl kr) fun ac A => SX.takeG 6 [] A H kr kd (fun w HK => SX.run_load1 (P := Tryz.prog) (T := 27) (b := s3.blk) (o := s3.off + id.toNat * 3 + 1) (v := .int .u64 (((e1.asid : Nat) : Int))) kr (SX.SlAt.elem (f := D.Space.cells) D.Space.len (HK.fact 1 (D.spsF s3 k.spaces) kr) he1 (k := 1) (Nat.lt_of_lt_of_eq (m := 3) kc rfl))) kr kr kr kr kr fun ac A => SX.takes [] [(13, none), (14, none)] A H kr kd kr kr kr (Or.inl kr) fun ac A => ?_
    exact SX.useD hJ1 kr kr ⟨A.sub _ kr, (H.pick [0, 1] _ kc kr).ro_pick [0, 1, 2, 3] _ kr⟩
  ·
   have A := A.re 30 (.bool (!(k.lives id))) (.bool true) kr (by rw [h2]; rfl)
   refine Xt A (XS (XR (Xb [0, 1, 0] A H fun ac w A H => XD (XT (XW (XQ (XU (Xr [1, 0] ((.tuple #[(D.Kernel.enc k s1 s2 s3 s4), .int .i64 4])) A H ?_))))))))
   have hf : D.switchN k id = ⟨k, 4⟩ := by rw [D.switchN, if_neg (by simpa using h1), if_pos h2]
   refine ⟨s1, s2, s3, s4, ?_, (by rw [hf]; exact (H.out 3 (D.memF s1 k.mem.f) kr)), (by rw [hf]; exact (H.out 2 (D.tlbF s2 k.hart.tlb.sets) kr)), (by rw [hf]; exact (H.out 1 (D.spsF s3 k.spaces) kr)), (by rw [hf]; exact (H.out 0 (D.fnsF s4 k.fences) kr))⟩
   rw [hf] <;> rfl
theorem Where_calls (k : D.Kernel) (id : Int) (addr : Nat) (level : Int)  {no : List Nat} (s1 s2 s3 s4 : SX.Sl) (w0 : World) (hno : ∀ b ∈ no, b < w0.heap.size) (hs1 : (D.memF s1 k.mem.f).P w0 no) (hs2 : (D.tlbF s2 k.hart.tlb.sets).P w0 no) (hs3 : (D.spsF s3 k.spaces).P w0 no) (hs4 : (D.fnsF s4 k.fences).P w0 no) (hL : Ld w0) (haddr : addr < 18446744073709551616) : SX.Gives Tryz.prog 42 #[(D.Kernel.enc k s1 s2 s3 s4), .int .i64 id, .int .u64 (((addr : Nat) : Int)), .int .i64 level] w0 ((.tuple #[.int .u64 ((((D.whereN k id addr level).top : Nat) : Int)), .int .i64 ((((D.whereN k id addr level).lv : Nat) : Int)), .int .i64 ((D.whereN k id addr level).err)])) := by
 refine SX.enterN (args := [(D.Kernel.enc k s1 s2 s3 s4), .int .i64 id, .int .u64 (((addr : Nat) : Int)), .int .i64 level]) (hno := hno) 55 Tryz.func42 rfl kr fun ac A H => ?_
 have H := H.known (D.memF s1 k.mem.f) hs1
 have H := H.known (D.tlbF s2 k.hart.tlb.sets) hs2
 have H := H.known (D.spsF s3 k.spaces) hs3
 have H := H.known (D.fnsF s4 k.fences) hs4
 refine XS (XR (Xb [0, 0, 0, 0] A H fun ac w A H => XD (XT (XS (XR (Xb [0, 0, 0] A H fun ac w A H => XD (XT (XS (XB (XS (XR (Xb [0] A H fun ac w A H => Xc A H (within_calls level 0 2 w) fun ac w A H => Xb [0, 0] A H fun ac w A H => XD (XT ?_)))))))))))))
 refine Xs (within level 0 2) (fun h1 => ?_) fun h1 => ?_
 ·
  have A := A.re 14 (.bool (!(within level 0 2))) (.bool false) kr (by rw [h1]; rfl)
  refine Xf A (XS (XR (Xb [0, 0, 0] A H fun ac w A H => ?_)))
  refine Xs (!(id == (-1))) (fun h2 => ?_) fun h2 => ?_
  ·
   have A := A.rb 21 h2
   refine Xb [0, 0] A H fun ac w A H => Xc A H (lives_calls k id s1 s2 s3 s4 w H.nos_lt (H.fact' 3 (D.memF s1 k.mem.f) kr) (H.fact' 2 (D.tlbF s2 k.hart.tlb.sets) kr) (H.fact' 1 (D.spsF s3 k.spaces) kr) (H.fact' 0 (D.fnsF s4 k.fences) kr)) fun ac w A H => Xb [0, 0, 0] A H fun ac w A H => XD (XT ?_)
   refine Xs (k.lives id) (fun h3 => ?_) fun h3 => ?_
   ·
    have A := A.re 18 (.bool (!(k.lives id))) (.bool false) kr (by rw [h3]; rfl)
    refine Xf A (XS (XR (Xb [0, 0] A H fun ac w A H => Xc A H (Fits_calls addr level w (hL.below H.below) ko (by have hw : within level 0 2 = true := (by assumption); simp [within] at hw; omega)) fun ac w A H => Xb [0, 0] A H fun ac w A H => XD (XT ?_))))
    refine Xs (isN addr && decide (offsetN addr level = 0)) (fun h4 => ?_) fun h4 => ?_
    ·
     have A := A.re 27 (.bool (!(isN addr && decide (offsetN addr level = 0)))) (.bool false) kr (by rw [h4]; rfl)
     refine Xf A (XS (XR (Xb [0, 0] A H fun ac w A H => Xc A H (Index_calls addr 2 w ko (by have : True := trivial; omega)) fun ac w A H => Xb [0, 0, 0] A H fun ac w A H => ?_)))
     refine Xs ((id == (-1)) != (((indexN addr 2 : Nat) : Int) == 511)) (fun h5 => ?_) fun h5 => ?_
     ·
      have A := A.rb 38 h5
      refine Xb [0, 0, 0, 0, 0, 0, 0] A H fun ac w A H => XD (XT (Xt A (XS (XR (Xb [0, 0, 0] A H fun ac w A H => XD (XT (XW (XQ (XU (Xr [0, 0, 0] ((.tuple #[.int .u64 0, .int .i64 0, .int .i64 3])) A H ?_))))))))))
      have hf : D.whereN k id addr level = ⟨0, 0, 3⟩ := by
       have hb : ∀ (V A L F B T : Bool) (sh rt : Nat), (V) = true → (!(A)) = true → (L) = true → (F) = true → ((A) != (B)) = true → D.whereB V A L F B T sh rt = ⟨0, 0, 3⟩ := by intro V A L F B T sh rt; cases V <;> cases A <;> cases L <;> cases F <;> cases B <;> cases T <;> simp [D.whereB]
       exact (hb _ _ _ _ _ _ k.shared (k.sp id).root h1 h2 h3 h4 h5)
      rw [hf] <;> rfl
     ·
      have A := A.rb 38 h5
      refine Xb [0, 0] A H fun ac w A H => ?_
      refine Xs (id == (-1)) (fun h6 => ?_) fun h6 => ?_
      ·
       have A := A.rb 40 h6
       have h6p : id = (-1) := kp h6
       refine Xb [0, 0, 0, 0, 0] A H fun ac w A H => XD (XT ?_)
       refine Xs (level == 2) (fun h7 => ?_) fun h7 => ?_
       ·
        have A := A.rb 32 h7
        have h7p : level = 2 := kp h7
        refine Xt A (XS (XR (Xb [0, 0, 0] A H fun ac w A H => XD (XT (XW (XQ (XU (Xr [0, 0, 0] ((.tuple #[.int .u64 0, .int .i64 0, .int .i64 3])) A H ?_))))))))
        have hf : D.whereN k id addr level = ⟨0, 0, 3⟩ := by
         have hb : ∀ (V A L F B T : Bool) (sh rt : Nat), (V) = true → (!(A)) = true → (L) = true → (F) = true → ((A) != (B)) = false → (A) = true → (T) = true → D.whereB V A L F B T sh rt = ⟨0, 0, 3⟩ := by intro V A L F B T sh rt; cases V <;> cases A <;> cases L <;> cases F <;> cases B <;> cases T <;> simp [D.whereB]
         exact (hb _ _ _ _ _ _ k.shared (k.sp id).root h1 h2 h3 h4 h5 h6 h7)
        rw [hf] <;> rfl
       ·
        have A := A.rb 32 h7
        have h7p : ¬ (level = 2) := kp h7
        refine Xf A (XS (XR (Xb [0, 0] A H fun ac w A H => XD (XT ?_))))
        have A := A.rb 45 h6
        refine Xt A (XS (XR (Xb [0, 0, 0, 0, 0] A H fun ac w A H => XD (XT (XW (XQ (XU (Xr [0, 0, 0] ((.tuple #[.int .u64 (((k.shared : Nat) : Int)), .int .i64 1, .int .i64 0])) A H ?_))))))))
        have hf : D.whereN k id addr level = ⟨k.shared, 1, 0⟩ := by
         have hb : ∀ (V A L F B T : Bool) (sh rt : Nat), (V) = true → (!(A)) = true → (L) = true → (F) = true → ((A) != (B)) = false → (A) = true → (T) = false → D.whereB V A L F B T sh rt = ⟨sh, 1, 0⟩ := by intro V A L F B T sh rt; cases V <;> cases A <;> cases L <;> cases F <;> cases B <;> cases T <;> simp [D.whereB]
         exact (hb _ _ _ _ _ _ k.shared (k.sp id).root h1 h2 h3 h4 h5 h6 h7)
        rw [hf] <;> rfl
      ·
       have A := A.rb 40 h6
       have h6p : ¬ (id = (-1)) := kp h6
       refine Xb [0, 0, 0, 0, 0] A H fun ac w A H => XD (XT (Xf A (XS (XR (Xb [0, 0] A H fun ac w A H => XD (XT ?_))))))
       have A := A.rb 45 h6
       refine Xf A (XK (XN (XT (XS (XR (Xb [0, 0, 0] A H fun ac w A H => ?_))))))
       have A := A.re 51 (.int .i64 id) (.int .i64 (((id.toNat : Nat) : Int))) kr (by rw [Int.toNat_of_nonneg ((D.lives_lt (k := k) (id := id) (by first | assumption | (have hA : (id == (-1)) = false := (by assumption); have hB : (!(id == (-1))) = false := (by assumption); rw [hA] at hB; cases hB))).1)])
       obtain ⟨e1, he1⟩ := SX.get_of_lt (l := k.spaces) (i := id.toNat) ((D.lives_lt (k := k) (id := id) (by first | assumption | (have hA : (id == (-1)) = false := (by assumption); have hB : (!(id == (-1))) = false := (by assumption); rw [hA] at hB; cases hB))).2)
       refine SX.given A (SX.run_idx (P := Tryz.prog) (H.fact' 1 (D.spsF s3 k.spaces) kr) (T := 42) (E := 80) (k := .i64) (i := id.toNat) Tryz.underlying42 kr (by rw [SX.SlAt.count D.Space.len kc (H.fact' 1 (D.spsF s3 k.spaces) kr)]; exact (List.getElem?_eq_some_iff.1 he1).1)) kr kr fun ac A => ?_
       refine Xb [0] A H fun ac w A H => SX.given A (SX.run_load1 (P := Tryz.prog) (T := 27) (b := s3.blk) (o := s3.off + id.toNat * 3) (v := .int .u64 (((e1.root : Nat) : Int))) kr (SX.SlAt.elem (f := D.Space.cells) D.Space.len (H.fact' 1 (D.spsF s3 k.spaces) kr) he1 (k := 0) (Nat.lt_of_lt_of_eq (m := 3) kc rfl))) kr kr fun ac A => Xb [0, 0, 0] A H fun ac w A H => XD (XT (XW (Xr [0, 0, 0] ((.tuple #[.int .u64 (((e1.root : Nat) : Int)), .int .i64 2, .int .i64 0])) A H ?_)))
       have hrt : (k.sp id).root = e1.root := by rw [D.Kernel.sp, he1]; rfl
       have hf : D.whereN k id addr level = ⟨e1.root, 2, 0⟩ := by
        have hb : ∀ (V A L F B T : Bool) (sh rt : Nat), (V) = true → (!(A)) = true → (L) = true → (F) = true → ((A) != (B)) = false → (A) = false → D.whereB V A L F B T sh rt = ⟨rt, 2, 0⟩ := by intro V A L F B T sh rt; cases V <;> cases A <;> cases L <;> cases F <;> cases B <;> cases T <;> simp [D.whereB]
        exact (hb _ _ _ _ _ _ k.shared (k.sp id).root h1 h2 h3 h4 h5 h6).trans (by rw [hrt])
       rw [hf] <;> rfl
    ·
     have A := A.re 27 (.bool (!(isN addr && decide (offsetN addr level = 0)))) (.bool true) kr (by rw [h4]; rfl)
     refine Xt A (XS (XR (Xb [0, 0, 0] A H fun ac w A H => XD (XT (XW (XQ (XU (Xr [0, 0, 0] ((.tuple #[.int .u64 0, .int .i64 0, .int .i64 2])) A H ?_))))))))
     have hf : D.whereN k id addr level = ⟨0, 0, 2⟩ := by
      have hb : ∀ (V A L F B T : Bool) (sh rt : Nat), (V) = true → (!(A)) = true → (L) = true → (F) = false → D.whereB V A L F B T sh rt = ⟨0, 0, 2⟩ := by intro V A L F B T sh rt; cases V <;> cases A <;> cases L <;> cases F <;> cases B <;> cases T <;> simp [D.whereB]
      exact (hb _ _ _ _ _ _ k.shared (k.sp id).root h1 h2 h3 h4)
     rw [hf] <;> rfl
   ·
    have A := A.re 18 (.bool (!(k.lives id))) (.bool true) kr (by rw [h3]; rfl)
    refine Xt A (XS (XR (Xb [0, 0, 0] A H fun ac w A H => XD (XT (XW (XQ (XU (Xr [0, 0, 0] ((.tuple #[.int .u64 0, .int .i64 0, .int .i64 4])) A H ?_))))))))
    have hf : D.whereN k id addr level = ⟨0, 0, 4⟩ := by
     have hb : ∀ (V A L F B T : Bool) (sh rt : Nat), (V) = true → (!(A)) = true → (L) = false → D.whereB V A L F B T sh rt = ⟨0, 0, 4⟩ := by intro V A L F B T sh rt; cases V <;> cases A <;> cases L <;> cases F <;> cases B <;> cases T <;> simp [D.whereB]
     exact (hb _ _ _ _ _ _ k.shared (k.sp id).root h1 h2 h3)
    rw [hf] <;> rfl
  ·
   have A := A.rb 21 h2
   refine Xb [0, 0, 0, 0, 0, 0] A H fun ac w A H => XD (XT (Xf A (XS (XR (Xb [0, 0] A H fun ac w A H => Xc A H (Fits_calls addr level w (hL.below H.below) ko (by have hw : within level 0 2 = true := (by assumption); simp [within] at hw; omega)) fun ac w A H => Xb [0, 0] A H fun ac w A H => XD (XT ?_))))))
   refine Xs (isN addr && decide (offsetN addr level = 0)) (fun h10 => ?_) fun h10 => ?_
   ·
    have A := A.re 27 (.bool (!(isN addr && decide (offsetN addr level = 0)))) (.bool false) kr (by rw [h10]; rfl)
    refine Xf A (XS (XR (Xb [0, 0] A H fun ac w A H => Xc A H (Index_calls addr 2 w ko (by have : True := trivial; omega)) fun ac w A H => Xb [0, 0, 0] A H fun ac w A H => ?_)))
    refine Xs ((id == (-1)) != (((indexN addr 2 : Nat) : Int) == 511)) (fun h11 => ?_) fun h11 => ?_
    ·
     have A := A.rb 38 h11
     refine Xb [0, 0, 0, 0, 0, 0, 0] A H fun ac w A H => XD (XT (Xt A (XS (XR (Xb [0, 0, 0] A H fun ac w A H => XD (XT (XW (XQ (XU (Xr [0, 0, 0] ((.tuple #[.int .u64 0, .int .i64 0, .int .i64 3])) A H ?_))))))))))
     have hf : D.whereN k id addr level = ⟨0, 0, 3⟩ := by
      have hb : ∀ (V A L F B T : Bool) (sh rt : Nat), (V) = true → (!(A)) = false → (F) = true → ((A) != (B)) = true → D.whereB V A L F B T sh rt = ⟨0, 0, 3⟩ := by intro V A L F B T sh rt; cases V <;> cases A <;> cases L <;> cases F <;> cases B <;> cases T <;> simp [D.whereB]
      exact (hb _ _ _ _ _ _ k.shared (k.sp id).root h1 h2 h10 h11)
     rw [hf] <;> rfl
    ·
     have A := A.rb 38 h11
     refine Xb [0, 0] A H fun ac w A H => ?_
     refine Xs (id == (-1)) (fun h12 => ?_) fun h12 => ?_
     ·
      have A := A.rb 40 h12
      have h12p : id = (-1) := kp h12
      refine Xb [0, 0, 0, 0, 0] A H fun ac w A H => XD (XT ?_)
      refine Xs (level == 2) (fun h13 => ?_) fun h13 => ?_
      ·
       have A := A.rb 32 h13
       have h13p : level = 2 := kp h13
       refine Xt A (XS (XR (Xb [0, 0, 0] A H fun ac w A H => XD (XT (XW (XQ (XU (Xr [0, 0, 0] ((.tuple #[.int .u64 0, .int .i64 0, .int .i64 3])) A H ?_))))))))
       have hf : D.whereN k id addr level = ⟨0, 0, 3⟩ := by
        have hb : ∀ (V A L F B T : Bool) (sh rt : Nat), (V) = true → (!(A)) = false → (F) = true → ((A) != (B)) = false → (A) = true → (T) = true → D.whereB V A L F B T sh rt = ⟨0, 0, 3⟩ := by intro V A L F B T sh rt; cases V <;> cases A <;> cases L <;> cases F <;> cases B <;> cases T <;> simp [D.whereB]
        exact (hb _ _ _ _ _ _ k.shared (k.sp id).root h1 h2 h10 h11 h12 h13)
       rw [hf] <;> rfl
      ·
       have A := A.rb 32 h13
       have h13p : ¬ (level = 2) := kp h13
       refine Xf A (XS (XR (Xb [0, 0] A H fun ac w A H => XD (XT ?_))))
       have A := A.rb 45 h12
       refine Xt A (XS (XR (Xb [0, 0, 0, 0, 0] A H fun ac w A H => XD (XT (XW (XQ (XU (Xr [0, 0, 0] ((.tuple #[.int .u64 (((k.shared : Nat) : Int)), .int .i64 1, .int .i64 0])) A H ?_))))))))
       have hf : D.whereN k id addr level = ⟨k.shared, 1, 0⟩ := by
        have hb : ∀ (V A L F B T : Bool) (sh rt : Nat), (V) = true → (!(A)) = false → (F) = true → ((A) != (B)) = false → (A) = true → (T) = false → D.whereB V A L F B T sh rt = ⟨sh, 1, 0⟩ := by intro V A L F B T sh rt; cases V <;> cases A <;> cases L <;> cases F <;> cases B <;> cases T <;> simp [D.whereB]
        exact (hb _ _ _ _ _ _ k.shared (k.sp id).root h1 h2 h10 h11 h12 h13)
       rw [hf] <;> rfl
     ·
      have A := A.rb 40 h12
      have h12p : ¬ (id = (-1)) := kp h12
      refine Xb [0, 0, 0, 0, 0] A H fun ac w A H => XD (XT (Xf A (XS (XR (Xb [0, 0] A H fun ac w A H => XD (XT ?_))))))
      have A := A.rb 45 h12
      refine Xf A (XK (XN (XT (XS (XR (Xb [0, 0, 0] A H fun ac w A H => ?_))))))
      have A := A.re 51 (.int .i64 id) (.int .i64 (((id.toNat : Nat) : Int))) kr (by rw [Int.toNat_of_nonneg ((D.lives_lt (k := k) (id := id) (by first | assumption | (have hA : (id == (-1)) = false := (by assumption); have hB : (!(id == (-1))) = false := (by assumption); rw [hA] at hB; cases hB))).1)])
      obtain ⟨e2, he2⟩ := SX.get_of_lt (l := k.spaces) (i := id.toNat) ((D.lives_lt (k := k) (id := id) (by first | assumption | (have hA : (id == (-1)) = false := (by assumption); have hB : (!(id == (-1))) = false := (by assumption); rw [hA] at hB; cases hB))).2)
      refine SX.given A (SX.run_idx (P := Tryz.prog) (H.fact' 1 (D.spsF s3 k.spaces) kr) (T := 42) (E := 80) (k := .i64) (i := id.toNat) Tryz.underlying42 kr (by rw [SX.SlAt.count D.Space.len kc (H.fact' 1 (D.spsF s3 k.spaces) kr)]; exact (List.getElem?_eq_some_iff.1 he2).1)) kr kr fun ac A => ?_
      refine Xb [0] A H fun ac w A H => SX.given A (SX.run_load1 (P := Tryz.prog) (T := 27) (b := s3.blk) (o := s3.off + id.toNat * 3) (v := .int .u64 (((e2.root : Nat) : Int))) kr (SX.SlAt.elem (f := D.Space.cells) D.Space.len (H.fact' 1 (D.spsF s3 k.spaces) kr) he2 (k := 0) (Nat.lt_of_lt_of_eq (m := 3) kc rfl))) kr kr fun ac A => Xb [0, 0, 0] A H fun ac w A H => XD (XT (XW (Xr [0, 0, 0] ((.tuple #[.int .u64 (((e2.root : Nat) : Int)), .int .i64 2, .int .i64 0])) A H ?_)))
      have hrt : (k.sp id).root = e2.root := by rw [D.Kernel.sp, he2]; rfl
      have hf : D.whereN k id addr level = ⟨e2.root, 2, 0⟩ := by
       have hb : ∀ (V A L F B T : Bool) (sh rt : Nat), (V) = true → (!(A)) = false → (F) = true → ((A) != (B)) = false → (A) = false → D.whereB V A L F B T sh rt = ⟨rt, 2, 0⟩ := by intro V A L F B T sh rt; cases V <;> cases A <;> cases L <;> cases F <;> cases B <;> cases T <;> simp [D.whereB]
       exact (hb _ _ _ _ _ _ k.shared (k.sp id).root h1 h2 h10 h11 h12).trans (by rw [hrt])
      rw [hf] <;> rfl
   ·
    have A := A.re 27 (.bool (!(isN addr && decide (offsetN addr level = 0)))) (.bool true) kr (by rw [h10]; rfl)
    refine Xt A (XS (XR (Xb [0, 0, 0] A H fun ac w A H => XD (XT (XW (XQ (XU (Xr [0, 0, 0] ((.tuple #[.int .u64 0, .int .i64 0, .int .i64 2])) A H ?_))))))))
    have hf : D.whereN k id addr level = ⟨0, 0, 2⟩ := by
     have hb : ∀ (V A L F B T : Bool) (sh rt : Nat), (V) = true → (!(A)) = false → (F) = false → D.whereB V A L F B T sh rt = ⟨0, 0, 2⟩ := by intro V A L F B T sh rt; cases V <;> cases A <;> cases L <;> cases F <;> cases B <;> cases T <;> simp [D.whereB]
     exact (hb _ _ _ _ _ _ k.shared (k.sp id).root h1 h2 h10)
    rw [hf] <;> rfl
 ·
  have A := A.re 14 (.bool (!(within level 0 2))) (.bool true) kr (by rw [h1]; rfl)
  refine Xt A (XS (XR (Xb [0, 0, 0] A H fun ac w A H => XD (XT (XW (XQ (XU (Xr [0, 0, 0] ((.tuple #[.int .u64 0, .int .i64 0, .int .i64 1])) A H ?_))))))))
  have hf : D.whereN k id addr level = ⟨0, 0, 1⟩ := by
   have hb : ∀ (V A L F B T : Bool) (sh rt : Nat), (V) = false → D.whereB V A L F B T sh rt = ⟨0, 0, 1⟩ := by intro V A L F B T sh rt; cases V <;> cases A <;> cases L <;> cases F <;> cases B <;> cases T <;> simp [D.whereB]
   exact (hb _ _ _ _ _ _ k.shared (k.sp id).root h1)
  rw [hf] <;> rfl
end Go.Proofs.YtfkmcdkncmapmaaGreatDoor
set_option linter.unusedVariables false
set_option linter.unusedSimpArgs false
set_option maxRecDepth 100000
set_option maxHeartbeats 1000000
namespace Go.Proofs.YtfkmcdkncmapmaaGreatDoor
open Go Go.RowKit
theorem mRight_calls (size : Nat)  (w0 : World) (he : even size 4096 = true) (hs : size ≤ 1099511627776) : SX.Gives Tryz.prog 61 #[(D.Mem.enc (⟨size, (fun _ => 0)⟩ : D.Mem) SX.Sl.nil)] w0 (.bool true) := by
 refine SX.enter (args := [(D.Mem.enc (⟨size, (fun _ => 0)⟩ : D.Mem) SX.Sl.nil)]) 49 Tryz.func61 rfl kr fun ac A H => XS (XR (Xb [0, 0] A H fun ac w A H => XD (XT (XS (XS (XR (Xb [0, 0, 0, 0] A H fun ac w A H => XD (XT (XB (wp_loop_rounds 1 (XO (XS (XR (Xb [0] A H fun ac w A H => XD (XT (XS (Xf A (XI (XX (XX (XE (XT (XS (XR (Xb [0, 0] A H fun ac w A H => Xc A H (Even_calls size 4096 w) fun ac w A H => Xb [0] A H fun ac w A H => ?_)))))))))))))))))))))))))
 have A := A.re 44 (.bool (even size 4096)) (.bool true) kr (by rw [he])
 refine Xb [0, 0, 0, 0, 0] A H fun ac w A H => XD (XT (XW (Xr [0] (.bool (decide (((size : Nat) : Int) ≤ 1099511627776))) A H (congrArg Value.bool ?_))))
 first | (simp [he]; done) | (rw [Bool.eq_iff_iff]; simp [he]; done) | (rw [Bool.eq_iff_iff]; simp [he]; omega)
theorem mNew_calls (size : Nat)  {no : List Nat} (w0 : World) (hno : ∀ b ∈ no, b < w0.heap.size) (he : even size 4096 = true) (hs : size ≤ 1099511627776) : SX.Rets Tryz.prog 21 #[.int .u64 (((size : Nat) : Int))] w0 (fun r_ w => ∃ y1 : SX.Sl, r_ = (.tuple #[(D.Mem.enc (⟨size, fun _ => 0⟩ : D.Mem) y1), .int .i64 0]) ∧ (D.memF y1 ((⟨size, fun _ => 0⟩ : D.Mem).f)).P w no) := by
 refine SX.enterN (args := [.int .u64 (((size : Nat) : Int))]) (hno := hno) 12 Tryz.func21 rfl kr fun ac A H => XS (XR (Xb [0, 0] A H fun ac w A H => XD (XT (XS (XR (Xb [0, 0, 0, 1] A H fun ac w A H => XD (XT (XS (XS (XR (Xb [1] A H fun ac w A H => Xc A H (mRight_calls size w (by assumption) ko) fun ac w A H => Xb [0] A H fun ac w A H => XD (XT (Xf A (XK (XT (XS (XR (Xb [1, 0, 0] A H fun ac w A H => XD (XT (XW (Xr [0, 0] ((.tuple #[(D.Mem.enc (⟨size, (fun _ => 0)⟩ : D.Mem) SX.Sl.nil), .int .i64 0])) A H ?_)))))))))))))))))))))
 refine ⟨SX.Sl.nil, ?_, D.memNil⟩
 rfl
theorem pRight_calls (p : D.Pool)  (w0 : World) (hb : p.base ≤ 268435456) (hm : 0 ≤ p.many ∧ p.many ≤ 64) (hf : p.free = 0) : SX.Gives Tryz.prog 62 #[(D.Pool.enc p)] w0 (.bool true) := by
 obtain ⟨base, many, free⟩ := p; simp only at hb hm hf; subst hf; obtain ⟨n, rfl⟩ := Int.eq_ofNat_of_zero_le hm.1; skip
 ·
  refine SX.enter (args := [(D.Pool.enc (⟨base, ((n : Nat) : Int), 0⟩ : D.Pool))]) 26 Tryz.func62 rfl kr fun ac A H => XS (XR (Xb [0, 0] A H fun ac w A H => XD (XT (XS (SX.drawn 24 [0] kr A H fun w H => SX.takes [0] [(0, none), (1, some 0), (2, none), (3, none)] A H kr kd kr kr kr (Or.inl kr) fun ac A => ?_)))))
  refine Xs (decide (((n : Nat) : Int) ≥ 0)) (fun h1 => ?_) fun h1 => ?_
  ·
   have A := A.rb 6 h1
   have h1p : ((n : Nat) : Int) ≥ 0 := kp h1
   refine SX.takes [0] [(4, none), (5, some 0), (6, none), (7, none), (8, none)] A H kr kd kr kr kr (Or.inl kr) fun ac A => ?_
   refine Xs (decide (((n : Nat) : Int) ≤ 64)) (fun h2 => ?_) fun h2 => ?_
   ·
    have A := A.rb 11 h2
    have h2p : ((n : Nat) : Int) ≤ 64 := kp h2
    refine SX.takes [0] [(9, none), (10, some 0), (11, none), (12, none), (13, none)] A H kr kd kr kr kr (Or.inl kr) fun ac A => ?_
    refine Xs (decide (((base : Nat) : Int) ≤ 268435456)) (fun h3 => ?_) fun h3 => ?_
    ·
     have A := A.rb 16 h3
     have h3p : base ≤ 268435456 := kp h3
     refine SX.takes [0] [(14, none), (15, some 0), (16, none), (17, some 0), (19, none), (20, some 0)] A H kr kd kr kr kr (Or.inl kr) fun ac A => SX.callGD 18 [0] A H (Get_calls 0 0 n w ko ko ko) kr kr kr kr (Or.inl kr) fun ac w A H => SX.takes [0] [(21, none), (22, none), (23, none)] A H kr kd kr kr kr (Or.inl kr) fun ac A => ?_
     refine SX.doneD kr ?_ _
     refine XT (XW (Xr [0] (.bool (((Bits.getN 0 0 n : Nat) : Int) == 0)) A H (congrArg Value.bool ?_)))
     first | (simp [Bits.getN]; done) | (exfalso; simp_all <;> omega)
    ·
     have A := A.rb 16 h3
     have h3p : ¬ (base ≤ 268435456) := kp h3
     refine SX.takes [0] [(14, none), (15, none), (16, none), (17, none), (18, none), (19, none), (20, none), (21, none), (22, none), (23, none)] A H kr kd kr kr kr (Or.inl kr) fun ac A => ?_
     refine SX.doneD kr ?_ _
     refine XT (XW (Xr [0] (.bool false) A H (congrArg Value.bool ?_)))
     first | (simp [Bits.getN]; done) | (exfalso; simp_all <;> omega)
   ·
    have A := A.rb 11 h2
    have h2p : ¬ (((n : Nat) : Int) ≤ 64) := kp h2
    refine SX.takes [0] [(9, none), (10, none), (11, none), (12, none), (13, none), (14, none), (15, none), (16, none), (17, none), (18, none), (19, none), (20, none), (21, none), (22, none), (23, none)] A H kr kd kr kr kr (Or.inl kr) fun ac A => ?_
    refine SX.doneD kr ?_ _
    refine XT (XW (Xr [0] (.bool false) A H (congrArg Value.bool ?_)))
    first | (simp [Bits.getN]; done) | (exfalso; simp_all <;> omega)
  ·
   have A := A.rb 6 h1
   have h1p : ¬ (((n : Nat) : Int) ≥ 0) := kp h1
   refine SX.takes [0] [(4, none), (5, none), (6, none), (7, none), (8, none), (9, none), (10, none), (11, none), (12, none), (13, none), (14, none), (15, none), (16, none), (17, none), (18, none), (19, none), (20, none), (21, none), (22, none), (23, none)] A H kr kd kr kr kr (Or.inl kr) fun ac A => ?_
   refine SX.doneD kr ?_ _
   refine XT (XW (Xr [0] (.bool false) A H (congrArg Value.bool ?_)))
   first | (simp [Bits.getN]; done) | (exfalso; simp_all <;> omega)
end Go.Proofs.YtfkmcdkncmapmaaGreatDoor
