/- Walks of functions, written by the session's own program wip/sx/sxgen.py; Lean checks them. -/
import Derived.Test.YtfkmcdkncmapmaaGreatDoorY02
import Derived.Test.YtfkmcdkncmapmaaGreatDoorY30
import Derived.Test.YtfkmcdkncmapmaaGreatDoorProg
set_option linter.unusedVariables false
set_option linter.unusedSimpArgs false
set_option maxRecDepth 100000
set_option maxHeartbeats 2000000
namespace Go.Proofs.YtfkmcdkncmapmaaGreatDoor
open Go Go.RowKit
namespace D
def Kernel.newRoot (k : Kernel) : Nat := if k.pool.free = 0 then 0 else k.pool.next
def Kernel.newNum (k : Kernel) : Nat := if k.asids.free = 0 then 0 else ctz k.asids.free + 1
def Kernel.newOwned (k : Kernel) : Bool := if k.asids.free = 0 then false else bitB k.asids.owned (ctz k.asids.free)
def Kernel.made (k : Kernel) : Kernel := ⟨k.conf, withM (freshM k.mem k.pool) ⟨k.newRoot, 2, Pte.zero⟩ (ofN 133955584) ⟨true, false, false, false, false, true, false, false, 0, k.shared, 0⟩, k.hart, k.pool.take, k.asids.take, k.spaces ++ [⟨k.newRoot, k.newNum, true⟩], k.now, k.shared, k.fences⟩
structure KId where
 k : Kernel
 id : Nat
 err : Int
def createN (k : Kernel) : KId :=
 if 32 ≤ k.spaces.length then ⟨k, 0, 1⟩ else if k.asids.free = 0 then ⟨k, 0, 9⟩ else if k.pool.free = 0 then ⟨k, 0, 8⟩
 else if k.newOwned = true then ⟨k.made.fence [⟨false, 0, true, k.newNum⟩], k.spaces.length, 0⟩ else ⟨k.made, k.spaces.length, 0⟩
theorem ofN_lt (n : Nat) : ofN n < 18446744073709551616 := sign39_lt _
end D
theorem zero_if {c : Prop} [Decidable c] {e : Int} (he : e ≠ 0) (h : ((if c then e else 0) != 0) = true) : c := by
 by_cases hc : c
 · exact hc
 · rw [if_neg hc] at h; cases h
theorem zero_if' {c : Prop} [Decidable c] {e : Int} (he : e ≠ 0) (h : ((if c then e else 0) != 0) = false) : ¬ c := fun hc => by
 rw [if_pos hc] at h; simp at h; exact he h
theorem Create_calls (k : D.Kernel)  {no : List Nat} (s1 s2 s3 s4 : SX.Sl) (w0 : World) (hno : ∀ b ∈ no, b < w0.heap.size) (hs1 : (D.memF s1 k.mem.f).P w0 no) (hs2 : (D.tlbF s2 k.hart.tlb.sets).P w0 no) (hs3 : (D.spsF s3 k.spaces).P w0 no) (hs4 : (D.fnsF s4 k.fences).P w0 no) (hL : Ld w0) (hp : k.pool.Ok) (ha : k.asids.Ok) (hms : k.mem.size ≤ 1099511627776) (ht : k.hart.tlb.Ok) (hsh : k.shared < 18446744073709551616) (hfn : k.fences.length < 900000) : SX.Rets Tryz.prog 14 #[(D.Kernel.enc k s1 s2 s3 s4)] w0 (fun r_ w => ∃ y1 y2 y3 y4 : SX.Sl, r_ = (.tuple #[(D.Kernel.enc ((D.createN k).k) y1 y2 y3 y4), .int .i64 ((((D.createN k).id : Nat) : Int)), .int .i64 ((D.createN k).err)]) ∧ (D.memF y1 (((D.createN k).k).mem.f)).P w no ∧ (D.tlbF y2 (((D.createN k).k).hart.tlb.sets)).P w no ∧ (D.spsF y3 (((D.createN k).k).spaces)).P w no ∧ (D.fnsF y4 (((D.createN k).k).fences)).P w no) := by
 refine SX.enterN (args := [(D.Kernel.enc k s1 s2 s3 s4)]) (hno := hno) 78 Tryz.func14 rfl kr fun ac A H => ?_
 have H := H.known (D.memF s1 k.mem.f) hs1
 have H := H.known (D.tlbF s2 k.hart.tlb.sets) hs2
 have H := H.known (D.spsF s3 k.spaces) hs3
 have H := H.known (D.fnsF s4 k.fences) hs4
 have hnl := D.next_lt hp
 refine XS (XR (Xb [0, 0, 0, 0] A H fun ac w A H => XD (XT (XS (XS (XR (Xb [0, 0, 0] A H fun ac w A H => ?_)))))))
 have A := A.re 15 (.int .i64 (((s3.n : Nat) : Int))) (.int .i64 (((k.spaces.length : Nat) : Int))) kr (by rw [SX.SlAt.count D.Space.len kc (H.fact' 1 (D.spsF s3 k.spaces) kr)])
 refine Xb [0] A H fun ac w A H => XD (XT ?_)
 refine Xs (decide (((k.spaces.length : Nat) : Int) ≥ 32)) (fun h1 => ?_) fun h1 => ?_
 ·
  have A := A.rb 16 h1
  have h1p : ((k.spaces.length : Nat) : Int) ≥ 32 := kp h1
  refine Xt A (XS (XR (Xb [0, 1, 0, 0] A H fun ac w A H => XD (XT (XW (XU (Xr [1, 0, 0] ((.tuple #[(D.Kernel.enc k s1 s2 s3 s4), .int .i64 0, .int .i64 1])) A H ?_)))))))
  have hf : D.createN k = ⟨k, 0, 1⟩ := by rw [D.createN, if_pos ko]
  refine ⟨s1, s2, s3, s4, ?_, (by rw [hf]; exact (H.out 3 (D.memF s1 k.mem.f) kr)), (by rw [hf]; exact (H.out 2 (D.tlbF s2 k.hart.tlb.sets) kr)), (by rw [hf]; exact (H.out 1 (D.spsF s3 k.spaces) kr)), (by rw [hf]; exact (H.out 0 (D.fnsF s4 k.fences) kr))⟩
  rw [hf]
  all_goals rfl
 ·
  have A := A.rb 16 h1
  have h1p : ¬ (((k.spaces.length : Nat) : Int) ≥ 32) := kp h1
  refine Xf A (XK (XT (XS (XR (Xb [0, 0, 2] A H fun ac w A H => XD (XT (XS (XR (Xb [0, 0] A H fun ac w A H => Xc A H (aTake_calls k.asids w (hL.below H.below) (ha)) fun ac w A H => Xb [0, 0, 0, 0, 0, 0, 3, 0, 0, 0] A H fun ac w A H => XD (XT (XS (XS (XR (Xb [0, 0] A H fun ac w A H => XD (XT ?_)))))))))))))))
  refine Xs ((if k.asids.free = 0 then (9 : Int) else 0) != 0) (fun h2 => ?_) fun h2 => ?_
  ·
   have A := A.rb 28 h2
   have h2p : (if k.asids.free = 0 then (9 : Int) else 0) ≠ 0 := kp h2
   refine Xt A (XS (XR (Xb [0, 0, 1, 0, 0] A H fun ac w A H => XD (XT (XW (XU (Xr [1, 0, 0] ((.tuple #[(D.Kernel.enc k s1 s2 s3 s4), .int .i64 0, .int .i64 (if k.asids.free = 0 then (9 : Int) else 0)])) A H ?_)))))))
   have hz := zero_if kc h2
   have hf : D.createN k = ⟨k, 0, 9⟩ := by rw [D.createN, if_neg ko, if_pos hz]
   refine ⟨s1, s2, s3, s4, ?_, (by rw [hf]; exact (H.out 3 (D.memF s1 k.mem.f) kr)), (by rw [hf]; exact (H.out 2 (D.tlbF s2 k.hart.tlb.sets) kr)), (by rw [hf]; exact (H.out 1 (D.spsF s3 k.spaces) kr)), (by rw [hf]; exact (H.out 0 (D.fnsF s4 k.fences) kr))⟩
   rw [hf]
   rw [if_pos hz]
   all_goals rfl
  ·
   have A := A.rb 28 h2
   have h2p : ¬ ((if k.asids.free = 0 then (9 : Int) else 0) ≠ 0) := kp h2
   refine Xf A (XK (XT (XS (XR (Xb [0, 0, 0, 0] A H fun ac w A H => SX.call A H (Fresh_calls k.mem k.pool s1 w H.nos_lt (H.fact' 3 (D.memF s1 k.mem.f) kr) (hL.below H.below) (hp)) kr kr ?_)))))
   rintro _ ac w ⟨z5, rfl, hz5⟩ A H
   have H := H.learn (D.memF z5 ((D.freshM k.mem k.pool).f)) hz5
   refine Xb [0, 0, 0, 0, 0, 0, 0, 4, 5, 0, 0] A H fun ac w A H => XD (XT (XS (XS (XR (Xb [0, 0] A H fun ac w A H => XD (XT ?_))))))
   refine Xs ((if k.pool.free = 0 then (8 : Int) else 0) != 0) (fun h3 => ?_) fun h3 => ?_
   ·
    have A := A.rb 42 h3
    have h3p : (if k.pool.free = 0 then (8 : Int) else 0) ≠ 0 := kp h3
    refine Xt A (XS (XR (Xb [0, 0, 1, 0, 0] A H fun ac w A H => XD (XT (XW (XU (Xr [1, 0, 0] ((.tuple #[(D.Kernel.enc k s1 s2 s3 s4), .int .i64 0, .int .i64 (if k.pool.free = 0 then (8 : Int) else 0)])) A H ?_)))))))
    have hna := zero_if' kc h2
    have hz := zero_if kc h3
    have hf : D.createN k = ⟨k, 0, 8⟩ := by rw [D.createN, if_neg ko, if_neg hna, if_pos hz]
    refine ⟨s1, s2, s3, s4, ?_, (by rw [hf]; exact (H.out 4 (D.memF s1 k.mem.f) kr)), (by rw [hf]; exact (H.out 3 (D.tlbF s2 k.hart.tlb.sets) kr)), (by rw [hf]; exact (H.out 2 (D.spsF s3 k.spaces) kr)), (by rw [hf]; exact (H.out 1 (D.fnsF s4 k.fences) kr))⟩
    rw [hf]
    rw [if_pos hz]
    all_goals rfl
   ·
    have A := A.rb 42 h3
    have h3p : ¬ ((if k.pool.free = 0 then (8 : Int) else 0) ≠ 0) := kp h3
    refine Xf A (XK (XT (XS (SX.drawn 8 [0, 4] kr A H fun w H => SX.takes [0, 4] [(0, some 1), (1, none), (2, none), (4, none), (5, some 0), (6, none)] A H kr kd kr kr kr (Or.inl kr) fun ac A => SX.callGD 3 [0, 4] A H (kernelAddr_calls  w) kr kr kr kr (Or.inl kr) fun ac w A H => SX.callD 7 [0, 4] A H (With_calls (D.freshM k.mem k.pool) (⟨if k.pool.free = 0 then 0 else k.pool.next, 2, (⟨false, false, false, false, false, false, false, false, 0, 0, 0⟩ : D.Pte)⟩ : D.Spot) (ofN 133955584) (⟨true, false, false, false, false, true, false, false, 0, k.shared, 0⟩ : D.Pte) z5 w H.nos_lt (H.fact' 0 (D.memF z5 ((D.freshM k.mem k.pool).f)) kr) (D.ofN_lt _) (by show (2 : Int) = 0 ∨ (2 : Int) = 1 ∨ (2 : Int) = 2; omega) (Nat.lt_trans hnl kc) (⟨by show (0 : Nat) < _; decide, hsh, by show (0 : Nat) < _; decide⟩) (by rw [D.freshM_size]; exact hms)) kr kr kr kr (Or.inl kr) ?_))))
    rintro _ ac w ⟨z6, rfl, hz6⟩ A H
    have H := H.learn (D.memF z6 ((D.withM (D.freshM k.mem k.pool) (⟨if k.pool.free = 0 then 0 else k.pool.next, 2, (⟨false, false, false, false, false, false, false, false, 0, 0, 0⟩ : D.Pte)⟩ : D.Spot) (ofN 133955584) (⟨true, false, false, false, false, true, false, false, 0, k.shared, 0⟩ : D.Pte)).f)) hz6
    refine SX.act 8 4 [0, 4] A H kr kr kr (Or.inr kr) (k := 1) fun ac w A H => ?_
    refine SX.doneD kr ?_ _
    refine XT (XS (SX.drawn 9 [3, 4, 5] kr A H fun w H => SX.takes [3, 4, 5] [(0, some 1), (1, some 2), (2, some 0), (3, none)] A H kr kd kr kr kr (Or.inl kr) fun ac A => SX.act 4 2 [3, 4, 5] A H kr kr kr (Or.inl kr) fun ac w A H => SX.takes [3, 4, 5] [(5, none)] A H kr kd kr kr kr (Or.inl kr) fun ac A => SX.act 6 2 [3, 4, 5] A H kr kr kr (Or.inl kr) fun ac w A H => SX.takes [3, 4, 5] [(7, none)] A H kr kd kr kr kr (Or.inl kr) fun ac A => SX.act 8 2 [3, 4, 5] A H kr kr kr (Or.inl kr) fun ac w A H => ?_))
    refine SX.doneD kr ?_ _
    refine XT (XS (XR (Xb [0, 0, 0, 0, 0, 0, 0] A H fun ac w A H => ?_)))
    let q6 := SX.bb H 6
    let q6v := SX.bb H 7
    have H := H.toFront 6 (p := (q6, .cells #[.int .u64 (((if k.pool.free = 0 then 0 else k.pool.next : Nat) : Int)), .int .u64 (((if k.asids.free = 0 then 0 else ctz k.asids.free + 1 : Nat) : Int)), .bool true] 80 (0, 0))) kr
    have H := H.give (D.spsF (⟨some ⟨q6, 0, none⟩, 1, 1⟩ : SX.Sl) [(⟨if k.pool.free = 0 then 0 else k.pool.next, if k.asids.free = 0 then 0 else ctz k.asids.free + 1, true⟩ : D.Space)]) (by intro no hno hw; exact list_give D.Space.len (n := 1) (c := 1) rfl rfl (Nat.le_refl _) no hno hw)
    have H := H.toFront 6 (p := (q6v, .cells #[.slice s3.a s3.n s3.c, .slice (some ⟨q6, 0, none⟩) 1 1] 42 (0, 0))) kr
    have hcnt := SX.SlAt.count D.Space.len kc (H.fact' 4 (D.spsF s3 k.spaces) kr)
    refine SX.callW A (concatP 4 0 s3 (⟨some ⟨q6, 0, none⟩, 1, 1⟩ : SX.Sl) (k.spaces.flatMap D.Space.cells) (D.Space.cells (⟨if k.pool.free = 0 then 0 else k.pool.next, if k.asids.free = 0 then 0 else ctz k.asids.free + 1, true⟩ : D.Space)) q6v w H kr kr (spaces_one _) (fun u hu => spaces_one [(⟨if k.pool.free = 0 then 0 else k.pool.next, if k.asids.free = 0 then 0 else ctz k.asids.free + 1, true⟩ : D.Space)] u (by simpa using hu)) (by rw [hcnt]; show (_ + 1) * 24 ≤ _; omega)) kr kr ?_
    rintro u ac w2 (⟨_, hn0, _⟩ | ⟨b, c, xs, rfl, hnc, hxl, hxt, H⟩) A
    · exact absurd hn0 (by show _ + 1 ≠ 0; omega)
    obtain ⟨zz, hzz⟩ : ∃ zz : SX.Sl, zz = ⟨some ⟨b, 0, none⟩, s3.n + 1, c⟩ := ⟨_, rfl⟩
    have A := A.re 66 (.slice (some ⟨b, 0, none⟩) (s3.n + 1) c) (.slice zz.a zz.n zz.c) kr (by rw [hzz])
    have H := H.give (D.spsF zz (k.spaces ++ [(⟨if k.pool.free = 0 then 0 else k.pool.next, if k.asids.free = 0 then 0 else ctz k.asids.free + 1, true⟩ : D.Space)])) (by intro no hno hw; rw [hzz]; exact list_give D.Space.len (hxt.trans (by rw [List.flatMap_append]; rfl)) (by rw [hcnt, List.length_append]; rfl) hnc no hno hw)
    have H := H.pick [1, 2, 3, 4, 5, 6] [(SX.bb H 1, .cells (D.Kernel.cs k s1 s2 s3 s4) 45 (0, 0)), (SX.bb H 2, .cells (D.Kernel.cs (⟨(⟨0, 0, 0, 0⟩ : D.Conf), (⟨0, (fun _ => 0)⟩ : D.Mem), (⟨(⟨[]⟩ : D.Tlb), (⟨0, 0, 0⟩ : D.Satp), 0, false, false, 0⟩ : D.Hart), (⟨0, 0, 0⟩ : D.Pool), (⟨0, 0, 0⟩ : D.Asids), [], 0, 0, []⟩ : D.Kernel) SX.Sl.nil SX.Sl.nil SX.Sl.nil SX.Sl.nil) 45 (0, 0)), (SX.bb H 3, .cells (D.Kernel.cs (⟨k.conf, (D.withM (D.freshM k.mem k.pool) (⟨if k.pool.free = 0 then 0 else k.pool.next, 2, (⟨false, false, false, false, false, false, false, false, 0, 0, 0⟩ : D.Pte)⟩ : D.Spot) (ofN 133955584) (⟨true, false, false, false, false, true, false, false, 0, k.shared, 0⟩ : D.Pte)), k.hart, k.pool.take, k.asids.take, k.spaces, k.now, k.shared, k.fences⟩ : D.Kernel) z6 s2 s3 s4) 45 (0, 0)), (SX.bb H 4, .cells (D.Asids.cs k.asids.take) 41 (0, 0)), (SX.bb H 5, .cells (D.Mem.cs (D.withM (D.freshM k.mem k.pool) (⟨if k.pool.free = 0 then 0 else k.pool.next, 2, (⟨false, false, false, false, false, false, false, false, 0, 0, 0⟩ : D.Pte)⟩ : D.Spot) (ofN 133955584) (⟨true, false, false, false, false, true, false, false, 0, k.shared, 0⟩ : D.Pte)) z6) 30 (0, 0)), (SX.bb H 6, .cells (D.Pool.cs k.pool.take) 39 (0, 0))] kc kr
    refine Xb [0, 2] A H fun ac w A H => XD (XT (XS (XS (XR (Xb [0] A H fun ac w A H => XD (XT ?_))))))
    refine Xs (if k.asids.free = 0 then false else D.bitB k.asids.owned (ctz k.asids.free)) (fun h4 => ?_) fun h4 => ?_
    ·
     have A := A.rb 68 h4
     refine Xt A (SX.drawn 5 [2] kr A H fun w H => SX.takes [2] [(0, some 0), (1, none)] A H kr kd kr kr kr (Or.inl kr) fun ac A => SX.callGD 2 [2] A H (fAsid_calls (if k.asids.free = 0 then 0 else ctz k.asids.free + 1) w) kr kr kr kr (Or.inl kr) fun ac w A H => SX.act 3 0 [2] A H kr kr kr (Or.inl kr) fun ac w A H => ?_)
     let qs1 := SX.bb H 6
     have H := H.toFront 6 (p := (qs1, .cells #[.bool ((⟨false, 0, true, (if k.asids.free = 0 then 0 else ctz k.asids.free + 1)⟩ : D.Fence).hasAddr), .int .u64 ((((⟨false, 0, true, (if k.asids.free = 0 then 0 else ctz k.asids.free + 1)⟩ : D.Fence).addr : Nat) : Int)), .bool ((⟨false, 0, true, (if k.asids.free = 0 then 0 else ctz k.asids.free + 1)⟩ : D.Fence).hasAsid), .int .u64 ((((⟨false, 0, true, (if k.asids.free = 0 then 0 else ctz k.asids.free + 1)⟩ : D.Fence).asid : Nat) : Int))] 114 (0, 0))) kr
     have H := H.give (D.fnsF (⟨some ⟨qs1, 0, none⟩, 1, 1⟩ : SX.Sl) [(⟨false, 0, true, (if k.asids.free = 0 then 0 else ctz k.asids.free + 1)⟩ : D.Fence)]) (by intro no hno hw; exact list_give D.Fence.len (n := 1) (c := 1) rfl rfl (Nat.le_refl _) no hno hw)
     refine SX.callD 4 [2] A H (Fence_calls (⟨k.conf, (D.withM (D.freshM k.mem k.pool) (⟨if k.pool.free = 0 then 0 else k.pool.next, 2, (⟨false, false, false, false, false, false, false, false, 0, 0, 0⟩ : D.Pte)⟩ : D.Spot) (ofN 133955584) (⟨true, false, false, false, false, true, false, false, 0, k.shared, 0⟩ : D.Pte)), k.hart, k.pool.take, k.asids.take, (k.spaces ++ [(⟨if k.pool.free = 0 then 0 else k.pool.next, if k.asids.free = 0 then 0 else ctz k.asids.free + 1, true⟩ : D.Space)]), k.now, k.shared, k.fences⟩ : D.Kernel) ([(⟨false, 0, true, (if k.asids.free = 0 then 0 else ctz k.asids.free + 1)⟩ : D.Fence)]) z6 s2 zz s4 (⟨some ⟨qs1, 0, none⟩, 1, 1⟩ : SX.Sl) w H.nos_lt (H.fact' 3 (D.memF z6 ((D.withM (D.freshM k.mem k.pool) (⟨if k.pool.free = 0 then 0 else k.pool.next, 2, (⟨false, false, false, false, false, false, false, false, 0, 0, 0⟩ : D.Pte)⟩ : D.Spot) (ofN 133955584) (⟨true, false, false, false, false, true, false, false, 0, k.shared, 0⟩ : D.Pte)).f)) kr) (H.fact' 7 (D.tlbF s2 k.hart.tlb.sets) kr) (H.fact' 1 (D.spsF zz (k.spaces ++ [(⟨if k.pool.free = 0 then 0 else k.pool.next, if k.asids.free = 0 then 0 else ctz k.asids.free + 1, true⟩ : D.Space)])) kr) (H.fact' 5 (D.fnsF s4 k.fences) kr) (H.fact' 0 (D.fnsF (⟨some ⟨qs1, 0, none⟩, 1, 1⟩ : SX.Sl) ([(⟨false, 0, true, (if k.asids.free = 0 then 0 else ctz k.asids.free + 1)⟩ : D.Fence)])) kr) (hL.below H.below) (ht) (by intro f hf; rw [List.mem_singleton.1 hf]; show (0 : Nat) < _; decide) (by show k.fences.length + 1 < _; omega)) kr kr kr kr (Or.inl kr) (k := 1) ?_
     rintro _ ac w ⟨z8, z9, z10, z11, rfl, hz8, hz9, hz10, hz11⟩ A H
     have H := H.learn (D.memF z8 (((⟨k.conf, (D.withM (D.freshM k.mem k.pool) (⟨if k.pool.free = 0 then 0 else k.pool.next, 2, (⟨false, false, false, false, false, false, false, false, 0, 0, 0⟩ : D.Pte)⟩ : D.Spot) (ofN 133955584) (⟨true, false, false, false, false, true, false, false, 0, k.shared, 0⟩ : D.Pte)), k.hart, k.pool.take, k.asids.take, (k.spaces ++ [(⟨if k.pool.free = 0 then 0 else k.pool.next, if k.asids.free = 0 then 0 else ctz k.asids.free + 1, true⟩ : D.Space)]), k.now, k.shared, k.fences⟩ : D.Kernel).fence ([(⟨false, 0, true, (if k.asids.free = 0 then 0 else ctz k.asids.free + 1)⟩ : D.Fence)])).mem.f)) hz8
     have H := H.learn (D.tlbF z9 (((⟨k.conf, (D.withM (D.freshM k.mem k.pool) (⟨if k.pool.free = 0 then 0 else k.pool.next, 2, (⟨false, false, false, false, false, false, false, false, 0, 0, 0⟩ : D.Pte)⟩ : D.Spot) (ofN 133955584) (⟨true, false, false, false, false, true, false, false, 0, k.shared, 0⟩ : D.Pte)), k.hart, k.pool.take, k.asids.take, (k.spaces ++ [(⟨if k.pool.free = 0 then 0 else k.pool.next, if k.asids.free = 0 then 0 else ctz k.asids.free + 1, true⟩ : D.Space)]), k.now, k.shared, k.fences⟩ : D.Kernel).fence ([(⟨false, 0, true, (if k.asids.free = 0 then 0 else ctz k.asids.free + 1)⟩ : D.Fence)])).hart.tlb.sets)) hz9
     have H := H.learn (D.spsF z10 (((⟨k.conf, (D.withM (D.freshM k.mem k.pool) (⟨if k.pool.free = 0 then 0 else k.pool.next, 2, (⟨false, false, false, false, false, false, false, false, 0, 0, 0⟩ : D.Pte)⟩ : D.Spot) (ofN 133955584) (⟨true, false, false, false, false, true, false, false, 0, k.shared, 0⟩ : D.Pte)), k.hart, k.pool.take, k.asids.take, (k.spaces ++ [(⟨if k.pool.free = 0 then 0 else k.pool.next, if k.asids.free = 0 then 0 else ctz k.asids.free + 1, true⟩ : D.Space)]), k.now, k.shared, k.fences⟩ : D.Kernel).fence ([(⟨false, 0, true, (if k.asids.free = 0 then 0 else ctz k.asids.free + 1)⟩ : D.Fence)])).spaces)) hz10
     have H := H.learn (D.fnsF z11 (((⟨k.conf, (D.withM (D.freshM k.mem k.pool) (⟨if k.pool.free = 0 then 0 else k.pool.next, 2, (⟨false, false, false, false, false, false, false, false, 0, 0, 0⟩ : D.Pte)⟩ : D.Spot) (ofN 133955584) (⟨true, false, false, false, false, true, false, false, 0, k.shared, 0⟩ : D.Pte)), k.hart, k.pool.take, k.asids.take, (k.spaces ++ [(⟨if k.pool.free = 0 then 0 else k.pool.next, if k.asids.free = 0 then 0 else ctz k.asids.free + 1, true⟩ : D.Space)]), k.now, k.shared, k.fences⟩ : D.Kernel).fence ([(⟨false, 0, true, (if k.asids.free = 0 then 0 else ctz k.asids.free + 1)⟩ : D.Fence)])).fences)) hz11
     refine SX.act 5 2 [2] A H kr kr kr (Or.inr kr) (k := 5) fun ac w A H => ?_
     refine SX.doneD kr ?_ _
     refine XT (XS (SX.drawn 7 [0, 2] kr A H fun w H => SX.takes [0, 2] [(0, some 1), (1, none), (2, some 0), (3, none)] A H kr kd kr kr kr (Or.inl kr) fun ac A => ?_))
     have A := A.re 77 (.int .i64 (((s3.n : Nat) : Int))) (.int .i64 (((k.spaces.length : Nat) : Int))) kr (by rw [SX.SlAt.count D.Space.len kc (H.fact' 10 (D.spsF s3 k.spaces) kr)])
     refine SX.act 4 1 [0, 2] A H kr kr kr (Or.inl kr) fun ac w A H => SX.takes [0, 2] [(5, none), (6, none)] A H kr kd kr kr kr (Or.inl kr) fun ac A => ?_
     refine SX.doneD kr ?_ _
     refine XT (XW (Xr [1, 0, 0] ((.tuple #[(D.Kernel.enc ((⟨k.conf, (D.withM (D.freshM k.mem k.pool) (⟨if k.pool.free = 0 then 0 else k.pool.next, 2, (⟨false, false, false, false, false, false, false, false, 0, 0, 0⟩ : D.Pte)⟩ : D.Spot) (ofN 133955584) (⟨true, false, false, false, false, true, false, false, 0, k.shared, 0⟩ : D.Pte)), k.hart, k.pool.take, k.asids.take, (k.spaces ++ [(⟨if k.pool.free = 0 then 0 else k.pool.next, if k.asids.free = 0 then 0 else ctz k.asids.free + 1, true⟩ : D.Space)]), k.now, k.shared, k.fences⟩ : D.Kernel).fence ([(⟨false, 0, true, (if k.asids.free = 0 then 0 else ctz k.asids.free + 1)⟩ : D.Fence)])) z8 z9 z10 z11), .int .i64 (((k.spaces.length : Nat) : Int)), .int .i64 0])) A H ?_))
     have hna := zero_if' kc h2
     have hnp := zero_if' kc h3
     have hf : D.createN k = ⟨k.made.fence [⟨false, 0, true, k.newNum⟩], k.spaces.length, 0⟩ := by rw [D.createN, if_neg ko, if_neg hna, if_neg hnp, if_pos (show k.newOwned = true from h4)]
     refine ⟨z8, z9, z10, z11, ?_, (by rw [hf]; exact (H.out 3 (D.memF z8 (((⟨k.conf, (D.withM (D.freshM k.mem k.pool) (⟨if k.pool.free = 0 then 0 else k.pool.next, 2, (⟨false, false, false, false, false, false, false, false, 0, 0, 0⟩ : D.Pte)⟩ : D.Spot) (ofN 133955584) (⟨true, false, false, false, false, true, false, false, 0, k.shared, 0⟩ : D.Pte)), k.hart, k.pool.take, k.asids.take, (k.spaces ++ [(⟨if k.pool.free = 0 then 0 else k.pool.next, if k.asids.free = 0 then 0 else ctz k.asids.free + 1, true⟩ : D.Space)]), k.now, k.shared, k.fences⟩ : D.Kernel).fence ([(⟨false, 0, true, (if k.asids.free = 0 then 0 else ctz k.asids.free + 1)⟩ : D.Fence)])).mem.f)) kr)), (by rw [hf]; exact (H.out 2 (D.tlbF z9 (((⟨k.conf, (D.withM (D.freshM k.mem k.pool) (⟨if k.pool.free = 0 then 0 else k.pool.next, 2, (⟨false, false, false, false, false, false, false, false, 0, 0, 0⟩ : D.Pte)⟩ : D.Spot) (ofN 133955584) (⟨true, false, false, false, false, true, false, false, 0, k.shared, 0⟩ : D.Pte)), k.hart, k.pool.take, k.asids.take, (k.spaces ++ [(⟨if k.pool.free = 0 then 0 else k.pool.next, if k.asids.free = 0 then 0 else ctz k.asids.free + 1, true⟩ : D.Space)]), k.now, k.shared, k.fences⟩ : D.Kernel).fence ([(⟨false, 0, true, (if k.asids.free = 0 then 0 else ctz k.asids.free + 1)⟩ : D.Fence)])).hart.tlb.sets)) kr)), (by rw [hf]; exact (H.out 1 (D.spsF z10 (((⟨k.conf, (D.withM (D.freshM k.mem k.pool) (⟨if k.pool.free = 0 then 0 else k.pool.next, 2, (⟨false, false, false, false, false, false, false, false, 0, 0, 0⟩ : D.Pte)⟩ : D.Spot) (ofN 133955584) (⟨true, false, false, false, false, true, false, false, 0, k.shared, 0⟩ : D.Pte)), k.hart, k.pool.take, k.asids.take, (k.spaces ++ [(⟨if k.pool.free = 0 then 0 else k.pool.next, if k.asids.free = 0 then 0 else ctz k.asids.free + 1, true⟩ : D.Space)]), k.now, k.shared, k.fences⟩ : D.Kernel).fence ([(⟨false, 0, true, (if k.asids.free = 0 then 0 else ctz k.asids.free + 1)⟩ : D.Fence)])).spaces)) kr)), (by rw [hf]; exact (H.out 0 (D.fnsF z11 (((⟨k.conf, (D.withM (D.freshM k.mem k.pool) (⟨if k.pool.free = 0 then 0 else k.pool.next, 2, (⟨false, false, false, false, false, false, false, false, 0, 0, 0⟩ : D.Pte)⟩ : D.Spot) (ofN 133955584) (⟨true, false, false, false, false, true, false, false, 0, k.shared, 0⟩ : D.Pte)), k.hart, k.pool.take, k.asids.take, (k.spaces ++ [(⟨if k.pool.free = 0 then 0 else k.pool.next, if k.asids.free = 0 then 0 else ctz k.asids.free + 1, true⟩ : D.Space)]), k.now, k.shared, k.fences⟩ : D.Kernel).fence ([(⟨false, 0, true, (if k.asids.free = 0 then 0 else ctz k.asids.free + 1)⟩ : D.Fence)])).fences)) kr))⟩
     rw [hf]
     all_goals rfl
    ·
     have A := A.rb 68 h4
     refine Xf A (XK (XT (XS (SX.drawn 7 [0, 2] kr A H fun w H => SX.takes [0, 2] [(0, some 1), (1, none), (2, some 0), (3, none)] A H kr kd kr kr kr (Or.inl kr) fun ac A => ?_))))
     have A := A.re 77 (.int .i64 (((s3.n : Nat) : Int))) (.int .i64 (((k.spaces.length : Nat) : Int))) kr (by rw [SX.SlAt.count D.Space.len kc (H.fact' 5 (D.spsF s3 k.spaces) kr)])
     refine SX.act 4 1 [0, 2] A H kr kr kr (Or.inl kr) fun ac w A H => SX.takes [0, 2] [(5, none), (6, none)] A H kr kd kr kr kr (Or.inl kr) fun ac A => ?_
     refine SX.doneD kr ?_ _
     refine XT (XW (Xr [1, 0, 0] ((.tuple #[(D.Kernel.enc (⟨k.conf, (D.withM (D.freshM k.mem k.pool) (⟨if k.pool.free = 0 then 0 else k.pool.next, 2, (⟨false, false, false, false, false, false, false, false, 0, 0, 0⟩ : D.Pte)⟩ : D.Spot) (ofN 133955584) (⟨true, false, false, false, false, true, false, false, 0, k.shared, 0⟩ : D.Pte)), k.hart, k.pool.take, k.asids.take, (k.spaces ++ [(⟨if k.pool.free = 0 then 0 else k.pool.next, if k.asids.free = 0 then 0 else ctz k.asids.free + 1, true⟩ : D.Space)]), k.now, k.shared, k.fences⟩ : D.Kernel) z6 s2 zz s4), .int .i64 (((k.spaces.length : Nat) : Int)), .int .i64 0])) A H ?_))
     have hna := zero_if' kc h2
     have hnp := zero_if' kc h3
     have hf : D.createN k = ⟨k.made, k.spaces.length, 0⟩ := by rw [D.createN, if_neg ko, if_neg hna, if_neg hnp, if_neg (by rw [show k.newOwned = false from h4]; decide)]
     refine ⟨z6, s2, zz, s4, ?_, (by rw [hf]; exact (H.out 2 (D.memF z6 ((D.withM (D.freshM k.mem k.pool) (⟨if k.pool.free = 0 then 0 else k.pool.next, 2, (⟨false, false, false, false, false, false, false, false, 0, 0, 0⟩ : D.Pte)⟩ : D.Spot) (ofN 133955584) (⟨true, false, false, false, false, true, false, false, 0, k.shared, 0⟩ : D.Pte)).f)) kr)), (by rw [hf]; exact (H.out 6 (D.tlbF s2 k.hart.tlb.sets) kr)), (by rw [hf]; exact (H.out 0 (D.spsF zz (k.spaces ++ [(⟨if k.pool.free = 0 then 0 else k.pool.next, if k.asids.free = 0 then 0 else ctz k.asids.free + 1, true⟩ : D.Space)])) kr)), (by rw [hf]; exact (H.out 4 (D.fnsF s4 k.fences) kr))⟩
     rw [hf]
     all_goals rfl
end Go.Proofs.YtfkmcdkncmapmaaGreatDoor
