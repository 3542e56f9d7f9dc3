/- Walks of functions, written by the session's own program wip/sx/sxgen.py; Lean checks them. -/
import Derived.Test.YtfkmcdkncmapmaaGreatDoorY02
import Derived.Test.YtfkmcdkncmapmaaGreatDoorY41
import Derived.Test.YtfkmcdkncmapmaaGreatDoorProg
set_option linter.unusedVariables false
set_option linter.unusedSimpArgs false
set_option maxRecDepth 100000
set_option maxHeartbeats 2000000
namespace Go.Proofs.YtfkmcdkncmapmaaGreatDoor
open Go Go.RowKit
theorem law_calls (c : D.Conf) (l : List Nat) (x : Nat) (n : Nat)  {no : List Nat} (s1 : SX.Sl) (w0 : World) (hno : ∀ b ∈ no, b < w0.heap.size) (hs1 : (D.wsF s1 l).P w0 no) (hL : Ld w0) (hlw : ∀ a ∈ l, a < 18446744073709551616) (hx : x < 18446744073709551616) (hn : n < 256) : SX.Gives Tryz.prog 4 #[(D.Conf.enc c), .slice s1.a s1.n s1.c, .int .u64 (((x : Nat) : Int)), .int .u8 (((n : Nat) : Int))] w0 (.bool true) := by
 refine SX.enterN (args := [(D.Conf.enc c), .slice s1.a s1.n s1.c, .int .u64 (((x : Nat) : Int)), .int .u8 (((n : Nat) : Int))]) (hno := hno) 187 Tryz.func4 rfl kr fun ac A H => ?_
 have H := H.known (D.wsF s1 l) hs1
 refine XS (XR (Xb [0, 0] A H fun ac w A H => XD (XT (XS (XS (XR (Xc A H (awake_calls  w (hL.below H.below)) fun ac w A H => Xb [0, 0, 0] A H fun ac w A H => Xc A H (refMay_calls c w) fun ac w A H => Xb [0, 0, 0] A H fun ac w A H => ?_)))))))
 refine Xs (!(D.mayN c)) (fun h1 => ?_) fun h1 => ?_
 ·
  have A := A.rb 31 h1
  refine Xb [0, 0, 0, 0, 0, 0, 0, 0, 0] A H fun ac w A H => XD (XT (Xt A (XS (XR (Xc A H (awake_calls  w (hL.below H.below)) fun ac w A H => Xb [0] A H fun ac w A H => XD (XT (XW (XU (Xr [0] (.bool true) A H ?_)))))))))
  rfl
 ·
  have A := A.rb 31 h1
  refine Xb [0, 0] A H fun ac w A H => ?_
  have A := A.re 33 (.int .i64 (((s1.n : Nat) : Int))) (.int .i64 (((l.length : Nat) : Int))) kr (by rw [SX.SlAt.count D.nat1_len kc (H.fact' 0 (D.wsF s1 l) kr)])
  refine Xb [0, 0, 0] A H fun ac w A H => ?_
  refine Xs (decide (((l.length : Nat) : Int) > 30)) (fun h2 => ?_) fun h2 => ?_
  ·
   have A := A.rb 36 h2
   have h2p : ((l.length : Nat) : Int) > 30 := kp h2
   refine Xb [0, 0, 0, 0] A H fun ac w A H => XD (XT (Xt A (XS (XR (Xc A H (awake_calls  w (hL.below H.below)) fun ac w A H => Xb [0] A H fun ac w A H => XD (XT (XW (XU (Xr [0] (.bool true) A H ?_)))))))))
   rfl
  ·
   have A := A.rb 36 h2
   have h2p : ¬ (((l.length : Nat) : Int) > 30) := kp h2
   refine Xb [0, 0, 0, 0] A H fun ac w A H => XD (XT ?_)
   refine Xs (decide (c.pool < 3)) (fun h3 => ?_) fun h3 => ?_
   ·
    have A := A.rb 40 h3
    have h3p : c.pool < 3 := kp h3
    refine Xt A (XS (XR (Xc A H (awake_calls  w (hL.below H.below)) fun ac w A H => Xb [0] A H fun ac w A H => XD (XT (XW (XU (Xr [0] (.bool true) A H ?_)))))))
    rfl
   ·
    have A := A.rb 40 h3
    have h3p : ¬ (c.pool < 3) := kp h3
    refine Xf A (XK (XT (XS (XR ?_))))
    have hcd : D.Cd (⟨c.data, c.pool, 1, c.sets⟩ : D.Conf) := D.cd_one (by simpa using h1) (by simpa using h3)
    refine Xb [0] A H fun ac w A H => Xb [0] A H fun ac w A H => XD (XT (XS (XR (Xb [0] A H fun ac w A H => SX.call A H (New_calls (⟨c.data, c.pool, 1, c.sets⟩ : D.Conf)  w H.nos_lt  (hL.below H.below) (hcd.may)) kr kr ?_))))
    rintro _ ac w ⟨z2, z3, z4, z5, rfl, hz2, hz3, hz4, hz5⟩ A H
    have H := H.learn (D.memF z2 ((D.newK (⟨c.data, c.pool, 1, c.sets⟩ : D.Conf)).mem.f)) hz2
    have H := H.learn (D.tlbF z3 ((D.newK (⟨c.data, c.pool, 1, c.sets⟩ : D.Conf)).hart.tlb.sets)) hz3
    have H := H.learn (D.spsF z4 ((D.newK (⟨c.data, c.pool, 1, c.sets⟩ : D.Conf)).spaces)) hz4
    have H := H.learn (D.fnsF z5 ((D.newK (⟨c.data, c.pool, 1, c.sets⟩ : D.Conf)).fences)) hz5
    refine Exists.elim (⟨_, rfl⟩ : ∃ q : D.Kernel, q = (D.newK (⟨c.data, c.pool, 1, c.sets⟩ : D.Conf))) fun k1 hk1 => ?_
    have H := H.learnEq 3 (D.memF z2 ((D.newK (⟨c.data, c.pool, 1, c.sets⟩ : D.Conf)).mem.f)) (D.memF z2 k1.mem.f) kr (by rw [hk1])
    have H := H.learnEq 3 (D.tlbF z3 ((D.newK (⟨c.data, c.pool, 1, c.sets⟩ : D.Conf)).hart.tlb.sets)) (D.tlbF z3 k1.hart.tlb.sets) kr (by rw [hk1])
    have H := H.learnEq 3 (D.spsF z4 ((D.newK (⟨c.data, c.pool, 1, c.sets⟩ : D.Conf)).spaces)) (D.spsF z4 k1.spaces) kr (by rw [hk1])
    have H := H.learnEq 3 (D.fnsF z5 ((D.newK (⟨c.data, c.pool, 1, c.sets⟩ : D.Conf)).fences)) (D.fnsF z5 k1.fences) kr (by rw [hk1])
    have A := A.re 45 ((.tuple #[(D.Kernel.enc (D.newK (⟨c.data, c.pool, 1, c.sets⟩ : D.Conf)) z2 z3 z4 z5), .int .i64 0])) ((.tuple #[(D.Kernel.enc k1 z2 z3 z4 z5), .int .i64 0])) kr (by rw [hk1])
    have f2 : (D.createN k1).err = 0 ∧ (D.createN k1).id = 0 ∧ (D.switchN (D.createN k1).k ((0 : Nat) : Int)).err = 0 ∧ D.RInv (⟨c.data, c.pool, 1, c.sets⟩ : D.Conf) (D.switchN (D.createN k1).k ((0 : Nat) : Int)).k := by rw [hk1]; exact D.first_inv hcd
    have f1p : k1.pool.Ok := by rw [hk1]; exact D.start_pok hcd
    have f1a : k1.asids.Ok := by rw [hk1]; exact D.start_aok hcd
    have f1m : k1.mem.size ≤ 1099511627776 := by rw [hk1]; exact D.start_msz hcd
    have f1t : k1.hart.tlb.Ok := by rw [hk1]; exact D.start_tlb hcd
    have f1s : k1.shared < 18446744073709551616 := by rw [hk1]; exact D.start_shb hcd
    have f1f : k1.fences.length < 900000 := by rw [hk1]; show (0 : Nat) < _; decide
    refine Xb [0, 0, 0, 0, 1, 0] A H fun ac w A H => XD (XT (XS (XR (Xb [1] A H fun ac w A H => SX.call A H (Create_calls k1 z2 z3 z4 z5 w H.nos_lt (H.fact' 3 (D.memF z2 k1.mem.f) kr) (H.fact' 2 (D.tlbF z3 k1.hart.tlb.sets) kr) (H.fact' 1 (D.spsF z4 k1.spaces) kr) (H.fact' 0 (D.fnsF z5 k1.fences) kr) (hL.below H.below) (by first | exact f1p | exact d7.pok hcd) (by first | exact f1a | exact d7.aok) (by first | exact f1m | exact d7.msz hcd) (by first | exact f1t | exact d7.tlb.ok) (by first | exact f1s | exact d7.shb hcd) (by first | exact f1f | exact d7.fl)) kr kr ?_))))
    rintro _ ac w ⟨z6, z7, z8, z9, rfl, hz6, hz7, hz8, hz9⟩ A H
    have H := H.learn (D.memF z6 (((D.createN k1).k).mem.f)) hz6
    have H := H.learn (D.tlbF z7 (((D.createN k1).k).hart.tlb.sets)) hz7
    have H := H.learn (D.spsF z8 (((D.createN k1).k).spaces)) hz8
    have H := H.learn (D.fnsF z9 (((D.createN k1).k).fences)) hz9
    refine Exists.elim (⟨_, rfl⟩ : ∃ q : D.Kernel, q = ((D.createN k1).k)) fun k2 hk2 => ?_
    have H := H.learnEq 3 (D.memF z6 (((D.createN k1).k).mem.f)) (D.memF z6 k2.mem.f) kr (by rw [hk2])
    have H := H.learnEq 3 (D.tlbF z7 (((D.createN k1).k).hart.tlb.sets)) (D.tlbF z7 k2.hart.tlb.sets) kr (by rw [hk2])
    have H := H.learnEq 3 (D.spsF z8 (((D.createN k1).k).spaces)) (D.spsF z8 k2.spaces) kr (by rw [hk2])
    have H := H.learnEq 3 (D.fnsF z9 (((D.createN k1).k).fences)) (D.fnsF z9 k2.fences) kr (by rw [hk2])
    have A := A.re 50 ((.tuple #[(D.Kernel.enc ((D.createN k1).k) z6 z7 z8 z9), .int .i64 ((((D.createN k1).id : Nat) : Int)), .int .i64 ((D.createN k1).err)])) ((.tuple #[(D.Kernel.enc k2 z6 z7 z8 z9), .int .i64 ((((D.createN k1).id : Nat) : Int)), .int .i64 ((D.createN k1).err)])) kr (by rw [hk2])
    have f3 : (D.switchN k2 ((0 : Nat) : Int)).err = 0 ∧ D.RInv (⟨c.data, c.pool, 1, c.sets⟩ : D.Conf) (D.switchN k2 ((0 : Nat) : Int)).k := by rw [hk2]; exact f2.2.2
    refine Xb [0, 0, 0] A H fun ac w A H => ?_
    have A := A.re 52 (.int .i64 ((((D.createN k1).id : Nat) : Int))) (.int .i64 (((0 : Nat) : Int))) kr (by rw [f2.2.1])
    refine Xb [0] A H fun ac w A H => ?_
    have A := A.re 53 (.int .i64 ((D.createN k1).err)) (.int .i64 0) kr (by rw [f2.1])
    refine Xb [1, 0, 0] A H fun ac w A H => XD (XT (XS (XR (Xb [1, 0] A H fun ac w A H => SX.call A H (Switch_calls k2 ((0 : Nat) : Int) z6 z7 z8 z9 w H.nos_lt (H.fact' 3 (D.memF z6 k2.mem.f) kr) (H.fact' 2 (D.tlbF z7 k2.hart.tlb.sets) kr) (H.fact' 1 (D.spsF z8 k2.spaces) kr) (H.fact' 0 (D.fnsF z9 k2.fences) kr)) kr kr ?_))))
    rintro _ ac w ⟨z10, z11, z12, z13, rfl, hz10, hz11, hz12, hz13⟩ A H
    have H := H.learn (D.memF z10 (((D.switchN k2 ((0 : Nat) : Int)).k).mem.f)) hz10
    have H := H.learn (D.tlbF z11 (((D.switchN k2 ((0 : Nat) : Int)).k).hart.tlb.sets)) hz11
    have H := H.learn (D.spsF z12 (((D.switchN k2 ((0 : Nat) : Int)).k).spaces)) hz12
    have H := H.learn (D.fnsF z13 (((D.switchN k2 ((0 : Nat) : Int)).k).fences)) hz13
    refine Exists.elim (⟨_, rfl⟩ : ∃ q : D.Kernel, q = ((D.switchN k2 ((0 : Nat) : Int)).k)) fun k3 hk3 => ?_
    have H := H.learnEq 3 (D.memF z10 (((D.switchN k2 ((0 : Nat) : Int)).k).mem.f)) (D.memF z10 k3.mem.f) kr (by rw [hk3])
    have H := H.learnEq 3 (D.tlbF z11 (((D.switchN k2 ((0 : Nat) : Int)).k).hart.tlb.sets)) (D.tlbF z11 k3.hart.tlb.sets) kr (by rw [hk3])
    have H := H.learnEq 3 (D.spsF z12 (((D.switchN k2 ((0 : Nat) : Int)).k).spaces)) (D.spsF z12 k3.spaces) kr (by rw [hk3])
    have H := H.learnEq 3 (D.fnsF z13 (((D.switchN k2 ((0 : Nat) : Int)).k).fences)) (D.fnsF z13 k3.fences) kr (by rw [hk3])
    have A := A.re 57 ((.tuple #[(D.Kernel.enc ((D.switchN k2 ((0 : Nat) : Int)).k) z10 z11 z12 z13), .int .i64 ((D.switchN k2 ((0 : Nat) : Int)).err)])) ((.tuple #[(D.Kernel.enc k3 z10 z11 z12 z13), .int .i64 ((D.switchN k2 ((0 : Nat) : Int)).err)])) kr (by rw [hk3])
    have f4 : D.RInv (⟨c.data, c.pool, 1, c.sets⟩ : D.Conf) k3 := by rw [hk3]; exact f3.2
    refine Xb [0, 0, 0] A H fun ac w A H => ?_
    have A := A.re 59 (.int .i64 ((D.switchN k2 ((0 : Nat) : Int)).err)) (.int .i64 0) kr (congrArg (Value.int .i64) f3.1)
    refine Xb [1, 0] A H fun ac w A H => XD (XT (XS (XS (XR (Xb [0, 0, 0, 0, 0, 0] A H fun ac w A H => XD (XT (Xf A (XK (XT (XS (XS (XR (Xb [0] A H fun ac w A H => XD (XT (XB ?_)))))))))))))))
    refine SX.loopG (σ := Nat × D.Kernel) (fun g ac w => match g with | (i, k) => ∃ B0 B1 : Nat, ∃ za zb zc zd : SX.Sl, (D.RInv (⟨c.data, c.pool, 1, c.sets⟩ : D.Conf) k ∧ i ≤ l.length) ∧ SX.Agrees 187 ac [(1, .slice s1.a s1.n s1.c), (2, .int .u64 (((x : Nat) : Int))), (3, .int .u8 (((n : Nat) : Int))), (4, .pointer (some ⟨B0, 0, none⟩)), (9, .pointer (some ⟨B1, 0, none⟩)), (11, .int .i64 (((0 : Nat) : Int))), (14, .int .i64 (((i : Nat) : Int)))] ∧ SX.Own w0 w [(B0, .cells (D.Conf.cs (⟨c.data, c.pool, 1, c.sets⟩ : D.Conf)) 23 (0, 0)), (B1, .cells (D.Kernel.cs k za zb zc zd) 45 (0, 0))] ⟨[(D.memF za k.mem.f), (D.tlbF zb k.hart.tlb.sets), (D.spsF zc k.spaces), (D.fnsF zd k.fences), (D.wsF s1 l)], (SX.roOf H).fb, (SX.roOf H).no⟩) (fun g => match g with | (i, k) => l.length - i) (0, k3) ?_ ?_
    · exact ⟨SX.bb H 0, SX.bb H 1, z10, z11, z12, z13, (⟨f4, Nat.zero_le _⟩), A.sub _ kr, (H.pick [0, 1] _ kc kr).ro_pick [3, 2, 1, 0, 24] _ kr⟩
    rintro ⟨i, k⟩ ac w ⟨B0, B1, za, zb, zc, zd, hI, A, H⟩
    refine XS (XS (XR (Xb [0, 0, 0] A H fun ac w A H => ?_)))
    have A := A.re 68 (.int .i64 (((s1.n : Nat) : Int))) (.int .i64 (((l.length : Nat) : Int))) kr (by rw [SX.SlAt.count D.nat1_len kc (H.fact' 4 (D.wsF s1 l) kr)])
    refine Xb [0] A H fun ac w A H => XD (XT ?_)
    refine Xs (decide (((i : Nat) : Int) < ((l.length : Nat) : Int))) (fun h4 => ?_) fun h4 => ?_
    ·
     have A := A.rb 69 h4
     have h4p : ((i : Nat) : Int) < ((l.length : Nat) : Int) := kp h4
     refine Xt A (XK (XT (XS (XB (XS (XR (Xb [0, 0] A H fun ac w A H => Exists.elim (SX.get_of_lt (l := l) (i := i) ko) fun e1 he1 => ?_)))))))
     refine SX.given A (SX.run_idx (P := Tryz.prog) (H.fact' 4 (D.wsF s1 l) kr) (T := 72) (E := 27) (k := .i64) (i := i) Tryz.underlying72 kr (by rw [SX.SlAt.count D.nat1_len kc (H.fact' 4 (D.wsF s1 l) kr)]; exact (List.getElem?_eq_some_iff.1 he1).1)) kr kr fun ac A => ?_
     refine SX.given A (SX.run_load1 (P := Tryz.prog) (T := 27) (b := s1.blk) (o := s1.off + i * 1) (v := .int .u64 (((e1 : Nat) : Int))) kr (SX.SlAt.elem (f := D.nat1) D.nat1_len (H.fact' 4 (D.wsF s1 l) kr) he1 (k := 0) (Nat.lt_of_lt_of_eq (m := 1) kc rfl))) kr kr fun ac A => SX.call A H (refAddr_calls e1 (hlw _ (List.mem_of_getElem? he1)) w) kr kr ?_
     rintro _ ac w ⟨xa, hxa, hx8, rfl⟩ A H
     refine Xb [0] A H fun ac w A H => XD (XT (XS (XR (Xb [1, 0, 0, 0] A H fun ac w A H => SX.call A H (Map_calls k ((0 : Nat) : Int) xa 0 0 (⟨true, true, true, true⟩ : D.Perm) za zb zc zd w H.nos_lt (H.fact' 0 (D.memF za k.mem.f) kr) (H.fact' 1 (D.tlbF zb k.hart.tlb.sets) kr) (H.fact' 2 (D.spsF zc k.spaces) kr) (H.fact' 3 (D.fnsF zd k.fences) kr) (hL.below H.below) (hI.1.pok hcd) (hI.1.msz hcd) (hI.1.cok hcd) (hI.1.shb hcd) (hI.1.rtb hcd) kc (hxa) kc) kr kr ?_))))
     rintro _ ac w ⟨z14, z15, z16, z17, rfl, hz14, hz15, hz16, hz17⟩ A H
     have H := H.learn (D.memF z14 (((D.mapN k ((0 : Nat) : Int) xa 0 0 (⟨true, true, true, true⟩ : D.Perm)).k).mem.f)) hz14
     have H := H.learn (D.tlbF z15 (((D.mapN k ((0 : Nat) : Int) xa 0 0 (⟨true, true, true, true⟩ : D.Perm)).k).hart.tlb.sets)) hz15
     have H := H.learn (D.spsF z16 (((D.mapN k ((0 : Nat) : Int) xa 0 0 (⟨true, true, true, true⟩ : D.Perm)).k).spaces)) hz16
     have H := H.learn (D.fnsF z17 (((D.mapN k ((0 : Nat) : Int) xa 0 0 (⟨true, true, true, true⟩ : D.Perm)).k).fences)) hz17
     refine Exists.elim (⟨_, rfl⟩ : ∃ q : D.Kernel, q = ((D.mapN k ((0 : Nat) : Int) xa 0 0 (⟨true, true, true, true⟩ : D.Perm)).k)) fun k4 hk4 => ?_
     have H := H.learnEq 3 (D.memF z14 (((D.mapN k ((0 : Nat) : Int) xa 0 0 (⟨true, true, true, true⟩ : D.Perm)).k).mem.f)) (D.memF z14 k4.mem.f) kr (by rw [hk4])
     have H := H.learnEq 3 (D.tlbF z15 (((D.mapN k ((0 : Nat) : Int) xa 0 0 (⟨true, true, true, true⟩ : D.Perm)).k).hart.tlb.sets)) (D.tlbF z15 k4.hart.tlb.sets) kr (by rw [hk4])
     have H := H.learnEq 3 (D.spsF z16 (((D.mapN k ((0 : Nat) : Int) xa 0 0 (⟨true, true, true, true⟩ : D.Perm)).k).spaces)) (D.spsF z16 k4.spaces) kr (by rw [hk4])
     have H := H.learnEq 3 (D.fnsF z17 (((D.mapN k ((0 : Nat) : Int) xa 0 0 (⟨true, true, true, true⟩ : D.Perm)).k).fences)) (D.fnsF z17 k4.fences) kr (by rw [hk4])
     have A := A.re 82 ((.tuple #[(D.Kernel.enc ((D.mapN k ((0 : Nat) : Int) xa 0 0 (⟨true, true, true, true⟩ : D.Perm)).k) z14 z15 z16 z17), .int .i64 ((D.mapN k ((0 : Nat) : Int) xa 0 0 (⟨true, true, true, true⟩ : D.Perm)).err)])) ((.tuple #[(D.Kernel.enc k4 z14 z15 z16 z17), .int .i64 ((D.mapN k ((0 : Nat) : Int) xa 0 0 (⟨true, true, true, true⟩ : D.Perm)).err)])) kr (by rw [hk4])
     have m4 : D.RInv (⟨c.data, c.pool, 1, c.sets⟩ : D.Conf) k4 := by rw [hk4]; exact hI.1.map _ _ _ rfl
     refine Xb [0, 0, 0, 1] A H fun ac w A H => XD (XT (XR (Xb [1, 0, 0, 0, 0] A H fun ac w A H => SX.call A H (Step8 k4 (⟨8, 0, xa, 0, 0, (⟨false, false, false, false⟩ : D.Perm), Int.tmod ((i : Nat) : Int) 3, 0, 0⟩ : D.Op) z14 z15 z16 z17 w H.nos_lt (H.fact' 3 (D.memF z14 k4.mem.f) kr) (H.fact' 2 (D.tlbF z15 k4.hart.tlb.sets) kr) (H.fact' 1 (D.spsF z16 k4.spaces) kr) (H.fact' 0 (D.fnsF z17 k4.fences) kr) (hL.below H.below) (rfl) (by first | exact m4.kok hcd | exact l9.kok hcd) (by first | exact hxa | (show x / 8 * 8 < _; omega))) kr kr ?_)))
     rintro _ ac w ⟨z18, z19, z20, z21, rfl, hz18, hz19, hz20, hz21⟩ A H
     have H := H.learn (D.memF z18 ((D.bringK k4 (⟨8, 0, xa, 0, 0, (⟨false, false, false, false⟩ : D.Perm), Int.tmod ((i : Nat) : Int) 3, 0, 0⟩ : D.Op)).mem.f)) hz18
     have H := H.learn (D.tlbF z19 ((D.bringK k4 (⟨8, 0, xa, 0, 0, (⟨false, false, false, false⟩ : D.Perm), Int.tmod ((i : Nat) : Int) 3, 0, 0⟩ : D.Op)).hart.tlb.sets)) hz19
     have H := H.learn (D.spsF z20 ((D.bringK k4 (⟨8, 0, xa, 0, 0, (⟨false, false, false, false⟩ : D.Perm), Int.tmod ((i : Nat) : Int) 3, 0, 0⟩ : D.Op)).spaces)) hz20
     have H := H.learn (D.fnsF z21 ((D.bringK k4 (⟨8, 0, xa, 0, 0, (⟨false, false, false, false⟩ : D.Perm), Int.tmod ((i : Nat) : Int) 3, 0, 0⟩ : D.Op)).fences)) hz21
     refine Exists.elim (⟨_, rfl⟩ : ∃ q : D.Kernel, q = (D.bringK k4 (⟨8, 0, xa, 0, 0, (⟨false, false, false, false⟩ : D.Perm), Int.tmod ((i : Nat) : Int) 3, 0, 0⟩ : D.Op))) fun k5 hk5 => ?_
     have H := H.learnEq 3 (D.memF z18 ((D.bringK k4 (⟨8, 0, xa, 0, 0, (⟨false, false, false, false⟩ : D.Perm), Int.tmod ((i : Nat) : Int) 3, 0, 0⟩ : D.Op)).mem.f)) (D.memF z18 k5.mem.f) kr (by rw [hk5])
     have H := H.learnEq 3 (D.tlbF z19 ((D.bringK k4 (⟨8, 0, xa, 0, 0, (⟨false, false, false, false⟩ : D.Perm), Int.tmod ((i : Nat) : Int) 3, 0, 0⟩ : D.Op)).hart.tlb.sets)) (D.tlbF z19 k5.hart.tlb.sets) kr (by rw [hk5])
     have H := H.learnEq 3 (D.spsF z20 ((D.bringK k4 (⟨8, 0, xa, 0, 0, (⟨false, false, false, false⟩ : D.Perm), Int.tmod ((i : Nat) : Int) 3, 0, 0⟩ : D.Op)).spaces)) (D.spsF z20 k5.spaces) kr (by rw [hk5])
     have H := H.learnEq 3 (D.fnsF z21 ((D.bringK k4 (⟨8, 0, xa, 0, 0, (⟨false, false, false, false⟩ : D.Perm), Int.tmod ((i : Nat) : Int) 3, 0, 0⟩ : D.Op)).fences)) (D.fnsF z21 k5.fences) kr (by rw [hk5])
     have A := A.re 91 ((.tuple #[(D.Kernel.enc (D.bringK k4 (⟨8, 0, xa, 0, 0, (⟨false, false, false, false⟩ : D.Perm), Int.tmod ((i : Nat) : Int) 3, 0, 0⟩ : D.Op)) z18 z19 z20 z21), (D.Answer.enc (D.Answer.of 0 0))])) ((.tuple #[(D.Kernel.enc k5 z18 z19 z20 z21), (D.Answer.enc (D.Answer.of 0 0))])) kr (by rw [hk5])
     have m5 : D.RInv (⟨c.data, c.pool, 1, c.sets⟩ : D.Conf) k5 := by rw [hk5]; exact m4.bring hcd.d _
     refine Xb [0, 0, 0, 1] A H fun ac w A H => XD (XN (XT (XR (Xb [0, 0] A H fun ac w A H => ?_))))
     have A := A.re 71 (.int .i64 (IntKind.i64.wrap (((i : Nat) : Int) + 1))) (.int .i64 ((((i + 1) : Nat) : Int))) kr (SX.i_addN i 1 ko)
     refine Xb [0] A H fun ac w A H => XD (XT ?_)
     exact ⟨(i + 1, k5), ⟨SX.bb H 0, SX.bb H 1, z18, z19, z20, z21, (⟨m5, by omega⟩), A.sub _ kr, (H.pick [0, 1] _ kc kr).ro_pick [3, 2, 1, 0, 20] _ kr⟩, by show l.length - (i + 1) < l.length - i; omega⟩
    ·
     have A := A.rb 69 h4
     have h4p : ¬ (((i : Nat) : Int) < ((l.length : Nat) : Int)) := kp h4
     refine Xf A (XI (XX (XX (XE (XT (XS (XR (Xb [1] A H fun ac w A H => SX.call A H (Switch_calls k (-1) za zb zc zd w H.nos_lt (H.fact' 0 (D.memF za k.mem.f) kr) (H.fact' 1 (D.tlbF zb k.hart.tlb.sets) kr) (H.fact' 2 (D.spsF zc k.spaces) kr) (H.fact' 3 (D.fnsF zd k.fences) kr)) kr kr ?_))))))))
     rintro _ ac w ⟨z22, z23, z24, z25, rfl, hz22, hz23, hz24, hz25⟩ A H
     have H := H.learn (D.memF z22 (((D.switchN k (-1)).k).mem.f)) hz22
     have H := H.learn (D.tlbF z23 (((D.switchN k (-1)).k).hart.tlb.sets)) hz23
     have H := H.learn (D.spsF z24 (((D.switchN k (-1)).k).spaces)) hz24
     have H := H.learn (D.fnsF z25 (((D.switchN k (-1)).k).fences)) hz25
     refine Exists.elim (⟨_, rfl⟩ : ∃ q : D.Kernel, q = ((D.switchN k (-1)).k)) fun k6 hk6 => ?_
     have H := H.learnEq 3 (D.memF z22 (((D.switchN k (-1)).k).mem.f)) (D.memF z22 k6.mem.f) kr (by rw [hk6])
     have H := H.learnEq 3 (D.tlbF z23 (((D.switchN k (-1)).k).hart.tlb.sets)) (D.tlbF z23 k6.hart.tlb.sets) kr (by rw [hk6])
     have H := H.learnEq 3 (D.spsF z24 (((D.switchN k (-1)).k).spaces)) (D.spsF z24 k6.spaces) kr (by rw [hk6])
     have H := H.learnEq 3 (D.fnsF z25 (((D.switchN k (-1)).k).fences)) (D.fnsF z25 k6.fences) kr (by rw [hk6])
     have A := A.re 96 ((.tuple #[(D.Kernel.enc ((D.switchN k (-1)).k) z22 z23 z24 z25), .int .i64 ((D.switchN k (-1)).err)])) ((.tuple #[(D.Kernel.enc k6 z22 z23 z24 z25), .int .i64 ((D.switchN k (-1)).err)])) kr (by rw [hk6])
     have d6 : D.After (⟨c.data, c.pool, 1, c.sets⟩ : D.Conf) (D.destroyN k6 ((0 : Nat) : Int)).k ∧ (D.destroyN k6 ((0 : Nat) : Int)).err = 0 := by rw [hk6]; exact D.destroy_after hcd hI.1
     have o6p : k6.pool.Ok := by rw [hk6]; exact hI.1.offp hcd
     have o6a : k6.asids.Ok := by rw [hk6]; exact hI.1.offa
     have o6m : k6.mem.size ≤ 1099511627776 := by rw [hk6]; exact hI.1.offm hcd
     have o6r : ∀ s ∈ k6.spaces, s.root < 4503599627370495 ∧ s.asid < 18446744073709551616 := by rw [hk6]; exact hI.1.offr hcd
     have o6n : k6.spaces.length ≤ 32 := by rw [hk6]; exact hI.1.offn
     refine Xb [0, 0, 0, 1] A H fun ac w A H => XD (XT (XS (XR (Xb [1, 0] A H fun ac w A H => SX.call A H (Destroy_calls k6 ((0 : Nat) : Int) z22 z23 z24 z25 w H.nos_lt (H.fact' 3 (D.memF z22 k6.mem.f) kr) (H.fact' 2 (D.tlbF z23 k6.hart.tlb.sets) kr) (H.fact' 1 (D.spsF z24 k6.spaces) kr) (H.fact' 0 (D.fnsF z25 k6.fences) kr) (hL.below H.below) (o6p) (o6a) (o6m) (o6r) (o6n)) kr kr ?_))))
     rintro _ ac w ⟨z26, z27, z28, z29, rfl, hz26, hz27, hz28, hz29⟩ A H
     have H := H.learn (D.memF z26 (((D.destroyN k6 ((0 : Nat) : Int)).k).mem.f)) hz26
     have H := H.learn (D.tlbF z27 (((D.destroyN k6 ((0 : Nat) : Int)).k).hart.tlb.sets)) hz27
     have H := H.learn (D.spsF z28 (((D.destroyN k6 ((0 : Nat) : Int)).k).spaces)) hz28
     have H := H.learn (D.fnsF z29 (((D.destroyN k6 ((0 : Nat) : Int)).k).fences)) hz29
     refine Exists.elim (⟨_, rfl⟩ : ∃ q : D.Kernel, q = ((D.destroyN k6 ((0 : Nat) : Int)).k)) fun k7 hk7 => ?_
     have H := H.learnEq 3 (D.memF z26 (((D.destroyN k6 ((0 : Nat) : Int)).k).mem.f)) (D.memF z26 k7.mem.f) kr (by rw [hk7])
     have H := H.learnEq 3 (D.tlbF z27 (((D.destroyN k6 ((0 : Nat) : Int)).k).hart.tlb.sets)) (D.tlbF z27 k7.hart.tlb.sets) kr (by rw [hk7])
     have H := H.learnEq 3 (D.spsF z28 (((D.destroyN k6 ((0 : Nat) : Int)).k).spaces)) (D.spsF z28 k7.spaces) kr (by rw [hk7])
     have H := H.learnEq 3 (D.fnsF z29 (((D.destroyN k6 ((0 : Nat) : Int)).k).fences)) (D.fnsF z29 k7.fences) kr (by rw [hk7])
     have A := A.re 102 ((.tuple #[(D.Kernel.enc ((D.destroyN k6 ((0 : Nat) : Int)).k) z26 z27 z28 z29), .int .i64 ((D.destroyN k6 ((0 : Nat) : Int)).err)])) ((.tuple #[(D.Kernel.enc k7 z26 z27 z28 z29), .int .i64 ((D.destroyN k6 ((0 : Nat) : Int)).err)])) kr (by rw [hk7])
     have d7 : D.After (⟨c.data, c.pool, 1, c.sets⟩ : D.Conf) k7 := by rw [hk7]; exact d6.1
     have l7 := D.last_is hcd d7
     refine Xb [0, 0, 0] A H fun ac w A H => ?_
     have A := A.re 104 (.int .i64 ((D.destroyN k6 ((0 : Nat) : Int)).err)) (.int .i64 0) kr (congrArg (Value.int .i64) d6.2)
     refine Xb [1, 0] A H fun ac w A H => XD (XT (XS (XR (Xb [1] A H fun ac w A H => SX.call A H (Create_calls k7 z26 z27 z28 z29 w H.nos_lt (H.fact' 3 (D.memF z26 k7.mem.f) kr) (H.fact' 2 (D.tlbF z27 k7.hart.tlb.sets) kr) (H.fact' 1 (D.spsF z28 k7.spaces) kr) (H.fact' 0 (D.fnsF z29 k7.fences) kr) (hL.below H.below) (by first | exact f1p | exact d7.pok hcd) (by first | exact f1a | exact d7.aok) (by first | exact f1m | exact d7.msz hcd) (by first | exact f1t | exact d7.tlb.ok) (by first | exact f1s | exact d7.shb hcd) (by first | exact f1f | exact d7.fl)) kr kr ?_))))
     rintro _ ac w ⟨z30, z31, z32, z33, rfl, hz30, hz31, hz32, hz33⟩ A H
     have H := H.learn (D.memF z30 (((D.createN k7).k).mem.f)) hz30
     have H := H.learn (D.tlbF z31 (((D.createN k7).k).hart.tlb.sets)) hz31
     have H := H.learn (D.spsF z32 (((D.createN k7).k).spaces)) hz32
     have H := H.learn (D.fnsF z33 (((D.createN k7).k).fences)) hz33
     refine Exists.elim (⟨_, rfl⟩ : ∃ q : D.Kernel, q = ((D.createN k7).k)) fun k8 hk8 => ?_
     have H := H.learnEq 3 (D.memF z30 (((D.createN k7).k).mem.f)) (D.memF z30 k8.mem.f) kr (by rw [hk8])
     have H := H.learnEq 3 (D.tlbF z31 (((D.createN k7).k).hart.tlb.sets)) (D.tlbF z31 k8.hart.tlb.sets) kr (by rw [hk8])
     have H := H.learnEq 3 (D.spsF z32 (((D.createN k7).k).spaces)) (D.spsF z32 k8.spaces) kr (by rw [hk8])
     have H := H.learnEq 3 (D.fnsF z33 (((D.createN k7).k).fences)) (D.fnsF z33 k8.fences) kr (by rw [hk8])
     have A := A.re 107 ((.tuple #[(D.Kernel.enc ((D.createN k7).k) z30 z31 z32 z33), .int .i64 ((((D.createN k7).id : Nat) : Int)), .int .i64 ((D.createN k7).err)])) ((.tuple #[(D.Kernel.enc k8 z30 z31 z32 z33), .int .i64 ((((D.createN k7).id : Nat) : Int)), .int .i64 ((D.createN k7).err)])) kr (by rw [hk8])
     have l8 : (D.switchN k8 ((1 : Nat) : Int)).err = 0 ∧ D.Last (⟨c.data, c.pool, 1, c.sets⟩ : D.Conf) (D.switchN k8 ((1 : Nat) : Int)).k := by rw [hk8]; exact l7.2.2
     refine Xb [0, 0, 0] A H fun ac w A H => ?_
     have A := A.re 109 (.int .i64 ((((D.createN k7).id : Nat) : Int))) (.int .i64 (((1 : Nat) : Int))) kr (congrArg (fun q : Nat => Value.int .i64 (q : Int)) l7.2.1)
     refine Xb [0] A H fun ac w A H => ?_
     have A := A.re 110 (.int .i64 ((D.createN k7).err)) (.int .i64 0) kr (congrArg (Value.int .i64) l7.1)
     refine Xb [1, 0, 0] A H fun ac w A H => XD (XT (XS (XR (Xb [1, 0] A H fun ac w A H => SX.call A H (Switch_calls k8 ((1 : Nat) : Int) z30 z31 z32 z33 w H.nos_lt (H.fact' 3 (D.memF z30 k8.mem.f) kr) (H.fact' 2 (D.tlbF z31 k8.hart.tlb.sets) kr) (H.fact' 1 (D.spsF z32 k8.spaces) kr) (H.fact' 0 (D.fnsF z33 k8.fences) kr)) kr kr ?_))))
     rintro _ ac w ⟨z34, z35, z36, z37, rfl, hz34, hz35, hz36, hz37⟩ A H
     have H := H.learn (D.memF z34 (((D.switchN k8 ((1 : Nat) : Int)).k).mem.f)) hz34
     have H := H.learn (D.tlbF z35 (((D.switchN k8 ((1 : Nat) : Int)).k).hart.tlb.sets)) hz35
     have H := H.learn (D.spsF z36 (((D.switchN k8 ((1 : Nat) : Int)).k).spaces)) hz36
     have H := H.learn (D.fnsF z37 (((D.switchN k8 ((1 : Nat) : Int)).k).fences)) hz37
     refine Exists.elim (⟨_, rfl⟩ : ∃ q : D.Kernel, q = ((D.switchN k8 ((1 : Nat) : Int)).k)) fun k9 hk9 => ?_
     have H := H.learnEq 3 (D.memF z34 (((D.switchN k8 ((1 : Nat) : Int)).k).mem.f)) (D.memF z34 k9.mem.f) kr (by rw [hk9])
     have H := H.learnEq 3 (D.tlbF z35 (((D.switchN k8 ((1 : Nat) : Int)).k).hart.tlb.sets)) (D.tlbF z35 k9.hart.tlb.sets) kr (by rw [hk9])
     have H := H.learnEq 3 (D.spsF z36 (((D.switchN k8 ((1 : Nat) : Int)).k).spaces)) (D.spsF z36 k9.spaces) kr (by rw [hk9])
     have H := H.learnEq 3 (D.fnsF z37 (((D.switchN k8 ((1 : Nat) : Int)).k).fences)) (D.fnsF z37 k9.fences) kr (by rw [hk9])
     have A := A.re 114 ((.tuple #[(D.Kernel.enc ((D.switchN k8 ((1 : Nat) : Int)).k) z34 z35 z36 z37), .int .i64 ((D.switchN k8 ((1 : Nat) : Int)).err)])) ((.tuple #[(D.Kernel.enc k9 z34 z35 z36 z37), .int .i64 ((D.switchN k8 ((1 : Nat) : Int)).err)])) kr (by rw [hk9])
     have l9 : D.Last (⟨c.data, c.pool, 1, c.sets⟩ : D.Conf) k9 := by rw [hk9]; exact l8.2
     refine Xb [0, 0, 0] A H fun ac w A H => ?_
     have A := A.re 116 (.int .i64 ((D.switchN k8 ((1 : Nat) : Int)).err)) (.int .i64 0) kr (congrArg (Value.int .i64) l8.1)
     refine Xb [1, 0] A H fun ac w A H => XD (XT (XS (XS (XR (Xb [0, 0, 0, 0, 0, 0, 0, 0, 0, 0, 0, 0, 0, 0] A H fun ac w A H => ?_)))))
     have A := A.re 130 (.int .i64 (IntKind.i64.wrap (((0 : Nat) : Int) + 1))) (.int .i64 ((((0 + 1) : Nat) : Int))) kr (SX.i_addN 0 1 ko)
     refine Xb [0] A H fun ac w A H => ?_
     have A := A.re 131 (.bool (((1 : Nat) : Int) != (((0 + 1) : Nat) : Int))) (.bool false) kr (rfl)
     refine Xb [0, 0, 0, 1, 0] A H fun ac w A H => Exists.elim (SX.get_of_lt (l := k9.spaces) (i := 1) (l9.two)) fun e2 he2 => ?_
     refine SX.given A (SX.run_idx (P := Tryz.prog) (H.fact' 1 (D.spsF z36 k9.spaces) kr) (T := 42) (E := 80) (k := .i64) (i := 1) Tryz.underlying42 kr (by rw [SX.SlAt.count D.Space.len kc (H.fact' 1 (D.spsF z36 k9.spaces) kr)]; exact (List.getElem?_eq_some_iff.1 he2).1)) kr kr fun ac A => ?_
     refine Xb [0] A H fun ac w A H => SX.given A (SX.run_load1 (P := Tryz.prog) (T := 27) (b := z36.blk) (o := z36.off + 1 * 3 + 1) (v := .int .u64 (((e2.asid : Nat) : Int))) kr (SX.SlAt.elem (f := D.Space.cells) D.Space.len (H.fact' 1 (D.spsF z36 k9.spaces) kr) he2 (k := 1) (Nat.lt_of_lt_of_eq (m := 3) kc rfl))) kr kr fun ac A => Xb [0] A H fun ac w A H => ?_
     have A := A.re 140 (.bool (((e2.asid : Nat) : Int) != 1)) (.bool false) kr (by rw [l9.asid he2]; rfl)
     refine Xb [0] A H fun ac w A H => XD (XT (Xf A (XK (XT (XS (XS (XR (Xb [0] A H fun ac w A H => XD (XT (XB ?_))))))))))
     refine SX.loopG (σ := Nat) (fun g ac w => match g with | (j) => ∃ B0 B1 : Nat, (j ≤ l.length + 1) ∧ SX.Agrees 187 ac [(1, .slice s1.a s1.n s1.c), (2, .int .u64 (((x : Nat) : Int))), (3, .int .u8 (((n : Nat) : Int))), (4, .pointer (some ⟨B0, 0, none⟩)), (9, .pointer (some ⟨B1, 0, none⟩)), (20, .int .i64 (((j : Nat) : Int)))] ∧ SX.Own w0 w [(B0, .cells (D.Conf.cs (⟨c.data, c.pool, 1, c.sets⟩ : D.Conf)) 23 (0, 0)), (B1, .cells (D.Kernel.cs k9 z34 z35 z36 z37) 45 (0, 0))] ⟨[(D.memF z34 k9.mem.f), (D.tlbF z35 k9.hart.tlb.sets), (D.spsF z36 k9.spaces), (D.fnsF z37 k9.fences), (D.wsF s1 l)], (SX.roOf H).fb, (SX.roOf H).no⟩) (fun g => match g with | (j) => l.length + 1 - j) (0) ?_ ?_
     · exact ⟨SX.bb H 0, SX.bb H 1, ko, A.sub _ kr, (H.pick [0, 1] _ kc kr).ro_pick [3, 2, 1, 0, 36] _ kr⟩
     rintro j ac w ⟨B0, B1, hI, A, H⟩
     refine XS (XS (XR (Xb [0, 0, 0] A H fun ac w A H => ?_)))
     have A := A.re 144 (.int .i64 (((s1.n : Nat) : Int))) (.int .i64 (((l.length : Nat) : Int))) kr (by rw [SX.SlAt.count D.nat1_len kc (H.fact' 4 (D.wsF s1 l) kr)])
     refine Xb [0] A H fun ac w A H => XD (XT ?_)
     refine Xs (decide (((j : Nat) : Int) ≤ ((l.length : Nat) : Int))) (fun h5 => ?_) fun h5 => ?_
     ·
      have A := A.rb 145 h5
      have h5p : ((j : Nat) : Int) ≤ ((l.length : Nat) : Int) := kp h5
      refine Xt A (XK (XT (XS (XB (XS (XR (Xb [0, 0] A H fun ac w A H => ?_)))))))
      have A := A.re 149 (.int .u64 (IntKind.u64.wrap (Int.tdiv ((x : Nat) : Int) 8))) (.int .u64 ((((x / 8) : Nat) : Int))) kr (SX.u_quo x 8 ko)
      refine Xb [0] A H fun ac w A H => ?_
      have A := A.re 150 (.int .u64 (IntKind.u64.wrap ((((x / 8) : Nat) : Int) * 8))) (.int .u64 (((((x / 8) * 8) : Nat) : Int))) kr (SX.u_mul (x / 8) 8 ko)
      refine Xb [0] A H fun ac w A H => XD (XT (XS (XS (XR (Xb [0, 0, 0] A H fun ac w A H => ?_)))))
      have A := A.re 153 (.int .i64 (((s1.n : Nat) : Int))) (.int .i64 (((l.length : Nat) : Int))) kr (by rw [SX.SlAt.count D.nat1_len kc (H.fact' 4 (D.wsF s1 l) kr)])
      refine Xb [0] A H fun ac w A H => XD (XT ?_)
      refine Xs (decide (((j : Nat) : Int) < ((l.length : Nat) : Int))) (fun h6 => ?_) fun h6 => ?_
      ·
       have A := A.rb 154 h6
       have h6p : ((j : Nat) : Int) < ((l.length : Nat) : Int) := kp h6
       refine Xt A (XR (Xb [0, 0] A H fun ac w A H => Exists.elim (SX.get_of_lt (l := l) (i := j) ko) fun e3 he3 => ?_))
       refine SX.given A (SX.run_idx (P := Tryz.prog) (H.fact' 4 (D.wsF s1 l) kr) (T := 72) (E := 27) (k := .i64) (i := j) Tryz.underlying72 kr (by rw [SX.SlAt.count D.nat1_len kc (H.fact' 4 (D.wsF s1 l) kr)]; exact (List.getElem?_eq_some_iff.1 he3).1)) kr kr fun ac A => ?_
       refine SX.given A (SX.run_load1 (P := Tryz.prog) (T := 27) (b := s1.blk) (o := s1.off + j * 1) (v := .int .u64 (((e3 : Nat) : Int))) kr (SX.SlAt.elem (f := D.nat1) D.nat1_len (H.fact' 4 (D.wsF s1 l) kr) he3 (k := 0) (Nat.lt_of_lt_of_eq (m := 1) kc rfl))) kr kr fun ac A => SX.call A H (refAddr_calls e3 (hlw _ (List.mem_of_getElem? he3)) w) kr kr ?_
       rintro _ ac w ⟨xa, hxa, hx8, rfl⟩ A H
       refine Xb [0] A H fun ac w A H => XD (XT (XS (XR (Xb [1, 0, 0, 0, 0, 0] A H fun ac w A H => SX.call A H (Step6 k9 (⟨6, 0, xa, 0, 0, (⟨false, false, false, false⟩ : D.Perm), IntKind.i64.wrap (Int.tmod ((n : Nat) : Int) 3), 8, 0⟩ : D.Op) z34 z35 z36 z37 w H.nos_lt (H.fact' 0 (D.memF z34 k9.mem.f) kr) (H.fact' 1 (D.tlbF z35 k9.hart.tlb.sets) kr) (H.fact' 2 (D.spsF z36 k9.spaces) kr) (H.fact' 3 (D.fnsF z37 k9.fences) kr) (hL.below H.below) (rfl) (by first | exact m4.kok hcd | exact l9.kok hcd) (by first | exact hxa | (show x / 8 * 8 < _; omega))) kr kr ?_))))
       rintro _ ac w ⟨z38, z39, z40, z41, rfl, hz38, hz39, hz40, hz41⟩ A H
       have H := H.learn (D.memF z38 (((D.accessK k9 (⟨6, 0, xa, 0, 0, (⟨false, false, false, false⟩ : D.Perm), IntKind.i64.wrap (Int.tmod ((n : Nat) : Int) 3), 8, 0⟩ : D.Op)).k).mem.f)) hz38
       have H := H.learn (D.tlbF z39 (((D.accessK k9 (⟨6, 0, xa, 0, 0, (⟨false, false, false, false⟩ : D.Perm), IntKind.i64.wrap (Int.tmod ((n : Nat) : Int) 3), 8, 0⟩ : D.Op)).k).hart.tlb.sets)) hz39
       have H := H.learn (D.spsF z40 (((D.accessK k9 (⟨6, 0, xa, 0, 0, (⟨false, false, false, false⟩ : D.Perm), IntKind.i64.wrap (Int.tmod ((n : Nat) : Int) 3), 8, 0⟩ : D.Op)).k).spaces)) hz40
       have H := H.learn (D.fnsF z41 (((D.accessK k9 (⟨6, 0, xa, 0, 0, (⟨false, false, false, false⟩ : D.Perm), IntKind.i64.wrap (Int.tmod ((n : Nat) : Int) 3), 8, 0⟩ : D.Op)).k).fences)) hz41
       refine Exists.elim (⟨_, rfl⟩ : ∃ q : D.Kernel, q = ((D.accessK k9 (⟨6, 0, xa, 0, 0, (⟨false, false, false, false⟩ : D.Perm), IntKind.i64.wrap (Int.tmod ((n : Nat) : Int) 3), 8, 0⟩ : D.Op)).k)) fun k10 hk10 => ?_
       have H := H.learnEq 3 (D.memF z38 (((D.accessK k9 (⟨6, 0, xa, 0, 0, (⟨false, false, false, false⟩ : D.Perm), IntKind.i64.wrap (Int.tmod ((n : Nat) : Int) 3), 8, 0⟩ : D.Op)).k).mem.f)) (D.memF z38 k10.mem.f) kr (by rw [hk10])
       have H := H.learnEq 3 (D.tlbF z39 (((D.accessK k9 (⟨6, 0, xa, 0, 0, (⟨false, false, false, false⟩ : D.Perm), IntKind.i64.wrap (Int.tmod ((n : Nat) : Int) 3), 8, 0⟩ : D.Op)).k).hart.tlb.sets)) (D.tlbF z39 k10.hart.tlb.sets) kr (by rw [hk10])
       have H := H.learnEq 3 (D.spsF z40 (((D.accessK k9 (⟨6, 0, xa, 0, 0, (⟨false, false, false, false⟩ : D.Perm), IntKind.i64.wrap (Int.tmod ((n : Nat) : Int) 3), 8, 0⟩ : D.Op)).k).spaces)) (D.spsF z40 k10.spaces) kr (by rw [hk10])
       have H := H.learnEq 3 (D.fnsF z41 (((D.accessK k9 (⟨6, 0, xa, 0, 0, (⟨false, false, false, false⟩ : D.Perm), IntKind.i64.wrap (Int.tmod ((n : Nat) : Int) 3), 8, 0⟩ : D.Op)).k).fences)) (D.fnsF z41 k10.fences) kr (by rw [hk10])
       have A := A.re 167 ((.tuple #[(D.Kernel.enc ((D.accessK k9 (⟨6, 0, xa, 0, 0, (⟨false, false, false, false⟩ : D.Perm), IntKind.i64.wrap (Int.tmod ((n : Nat) : Int) 3), 8, 0⟩ : D.Op)).k) z38 z39 z40 z41), (D.Answer.enc ((D.accessK k9 (⟨6, 0, xa, 0, 0, (⟨false, false, false, false⟩ : D.Perm), IntKind.i64.wrap (Int.tmod ((n : Nat) : Int) 3), 8, 0⟩ : D.Op)).a))])) ((.tuple #[(D.Kernel.enc k10 z38 z39 z40 z41), (D.Answer.enc ((D.accessK k9 (⟨6, 0, xa, 0, 0, (⟨false, false, false, false⟩ : D.Perm), IntKind.i64.wrap (Int.tmod ((n : Nat) : Int) 3), 8, 0⟩ : D.Op)).a))])) kr (by rw [hk10])
       refine Xb [0, 0, 0, 0, 0, 2, 3] A H fun ac w A H => XD (XT (XS (XR ?_)))
       have hacc := D.access_new (k := k9) (o := (⟨6, 0, xa, 0, 0, (⟨false, false, false, false⟩ : D.Perm), IntKind.i64.wrap (Int.tmod ((n : Nat) : Int) 3), 8, 0⟩ : D.Op)) hcd.d l9.mem l9.tlb l9.satp (by rw [l9.now]; decide) (D.modW hn) rfl (by first | exact hx8 | (show x / 8 * 8 % 8 = 0; omega))
       refine Xb [0] A H fun ac w A H => Xb [3, 0] A H fun ac w A H => ?_
       have A := A.re 172 (.bool ((((D.accessK k9 (⟨6, 0, xa, 0, 0, (⟨false, false, false, false⟩ : D.Perm), IntKind.i64.wrap (Int.tmod ((n : Nat) : Int) 3), 8, 0⟩ : D.Op)).a).err) != 0)) (.bool false) kr (by rw [hacc.1]; rfl)
       refine Xb [0, 0, 0, 0, 3, 0] A H fun ac w A H => ?_
       have A := A.re 178 (.bool (!(((D.accessK k9 (⟨6, 0, xa, 0, 0, (⟨false, false, false, false⟩ : D.Perm), IntKind.i64.wrap (Int.tmod ((n : Nat) : Int) 3), 8, 0⟩ : D.Op)).a).result.fault.is_))) (.bool false) kr (by rw [hacc.2.1]; rfl)
       refine Xb [0, 0, 0, 0, 0, 3, 0] A H fun ac w A H => ?_
       have A := A.re 185 (.bool (decide ((((D.accessK k9 (⟨6, 0, xa, 0, 0, (⟨false, false, false, false⟩ : D.Perm), IntKind.i64.wrap (Int.tmod ((n : Nat) : Int) 3), 8, 0⟩ : D.Op)).a).result.fault.cause) < 12))) (.bool false) kr (by rw [decide_eq_false (by have := hacc.2.2; omega)])
       refine Xb [0] A H fun ac w A H => XD (XT (Xf A (XK (XN (XT (XR (Xb [0, 0] A H fun ac w A H => ?_)))))))
       have A := A.re 147 (.int .i64 (IntKind.i64.wrap (((j : Nat) : Int) + 1))) (.int .i64 ((((j + 1) : Nat) : Int))) kr (SX.i_addN j 1 ko)
       refine Xb [0] A H fun ac w A H => XD (XT ?_)
       exact ⟨(j + 1), ⟨SX.bb H 0, SX.bb H 1, ko, A.sub _ kr, (H.pick [0, 1] _ kc kr).ro_pick [8, 9, 10, 11, 12] _ kr⟩, by show l.length + 1 - (j + 1) < l.length + 1 - j; omega⟩
      ·
       have A := A.rb 154 h6
       have h6p : ¬ (((j : Nat) : Int) < ((l.length : Nat) : Int)) := kp h6
       refine Xf A (XK (XT (XS (XR (Xb [1, 0, 0, 0, 0, 0] A H fun ac w A H => SX.call A H (Step6 k9 (⟨6, 0, ((x / 8) * 8), 0, 0, (⟨false, false, false, false⟩ : D.Perm), IntKind.i64.wrap (Int.tmod ((n : Nat) : Int) 3), 8, 0⟩ : D.Op) z34 z35 z36 z37 w H.nos_lt (H.fact' 0 (D.memF z34 k9.mem.f) kr) (H.fact' 1 (D.tlbF z35 k9.hart.tlb.sets) kr) (H.fact' 2 (D.spsF z36 k9.spaces) kr) (H.fact' 3 (D.fnsF z37 k9.fences) kr) (hL.below H.below) (rfl) (by first | exact m4.kok hcd | exact l9.kok hcd) (by first | exact hxa | (show x / 8 * 8 < _; omega))) kr kr ?_)))))
       rintro _ ac w ⟨z42, z43, z44, z45, rfl, hz42, hz43, hz44, hz45⟩ A H
       have H := H.learn (D.memF z42 (((D.accessK k9 (⟨6, 0, ((x / 8) * 8), 0, 0, (⟨false, false, false, false⟩ : D.Perm), IntKind.i64.wrap (Int.tmod ((n : Nat) : Int) 3), 8, 0⟩ : D.Op)).k).mem.f)) hz42
       have H := H.learn (D.tlbF z43 (((D.accessK k9 (⟨6, 0, ((x / 8) * 8), 0, 0, (⟨false, false, false, false⟩ : D.Perm), IntKind.i64.wrap (Int.tmod ((n : Nat) : Int) 3), 8, 0⟩ : D.Op)).k).hart.tlb.sets)) hz43
       have H := H.learn (D.spsF z44 (((D.accessK k9 (⟨6, 0, ((x / 8) * 8), 0, 0, (⟨false, false, false, false⟩ : D.Perm), IntKind.i64.wrap (Int.tmod ((n : Nat) : Int) 3), 8, 0⟩ : D.Op)).k).spaces)) hz44
       have H := H.learn (D.fnsF z45 (((D.accessK k9 (⟨6, 0, ((x / 8) * 8), 0, 0, (⟨false, false, false, false⟩ : D.Perm), IntKind.i64.wrap (Int.tmod ((n : Nat) : Int) 3), 8, 0⟩ : D.Op)).k).fences)) hz45
       refine Exists.elim (⟨_, rfl⟩ : ∃ q : D.Kernel, q = ((D.accessK k9 (⟨6, 0, ((x / 8) * 8), 0, 0, (⟨false, false, false, false⟩ : D.Perm), IntKind.i64.wrap (Int.tmod ((n : Nat) : Int) 3), 8, 0⟩ : D.Op)).k)) fun k11 hk11 => ?_
       have H := H.learnEq 3 (D.memF z42 (((D.accessK k9 (⟨6, 0, ((x / 8) * 8), 0, 0, (⟨false, false, false, false⟩ : D.Perm), IntKind.i64.wrap (Int.tmod ((n : Nat) : Int) 3), 8, 0⟩ : D.Op)).k).mem.f)) (D.memF z42 k11.mem.f) kr (by rw [hk11])
       have H := H.learnEq 3 (D.tlbF z43 (((D.accessK k9 (⟨6, 0, ((x / 8) * 8), 0, 0, (⟨false, false, false, false⟩ : D.Perm), IntKind.i64.wrap (Int.tmod ((n : Nat) : Int) 3), 8, 0⟩ : D.Op)).k).hart.tlb.sets)) (D.tlbF z43 k11.hart.tlb.sets) kr (by rw [hk11])
       have H := H.learnEq 3 (D.spsF z44 (((D.accessK k9 (⟨6, 0, ((x / 8) * 8), 0, 0, (⟨false, false, false, false⟩ : D.Perm), IntKind.i64.wrap (Int.tmod ((n : Nat) : Int) 3), 8, 0⟩ : D.Op)).k).spaces)) (D.spsF z44 k11.spaces) kr (by rw [hk11])
       have H := H.learnEq 3 (D.fnsF z45 (((D.accessK k9 (⟨6, 0, ((x / 8) * 8), 0, 0, (⟨false, false, false, false⟩ : D.Perm), IntKind.i64.wrap (Int.tmod ((n : Nat) : Int) 3), 8, 0⟩ : D.Op)).k).fences)) (D.fnsF z45 k11.fences) kr (by rw [hk11])
       have A := A.re 167 ((.tuple #[(D.Kernel.enc ((D.accessK k9 (⟨6, 0, ((x / 8) * 8), 0, 0, (⟨false, false, false, false⟩ : D.Perm), IntKind.i64.wrap (Int.tmod ((n : Nat) : Int) 3), 8, 0⟩ : D.Op)).k) z42 z43 z44 z45), (D.Answer.enc ((D.accessK k9 (⟨6, 0, ((x / 8) * 8), 0, 0, (⟨false, false, false, false⟩ : D.Perm), IntKind.i64.wrap (Int.tmod ((n : Nat) : Int) 3), 8, 0⟩ : D.Op)).a))])) ((.tuple #[(D.Kernel.enc k11 z42 z43 z44 z45), (D.Answer.enc ((D.accessK k9 (⟨6, 0, ((x / 8) * 8), 0, 0, (⟨false, false, false, false⟩ : D.Perm), IntKind.i64.wrap (Int.tmod ((n : Nat) : Int) 3), 8, 0⟩ : D.Op)).a))])) kr (by rw [hk11])
       refine Xb [0, 0, 0, 0, 0, 2, 3] A H fun ac w A H => XD (XT (XS (XR ?_)))
       have hacc := D.access_new (k := k9) (o := (⟨6, 0, ((x / 8) * 8), 0, 0, (⟨false, false, false, false⟩ : D.Perm), IntKind.i64.wrap (Int.tmod ((n : Nat) : Int) 3), 8, 0⟩ : D.Op)) hcd.d l9.mem l9.tlb l9.satp (by rw [l9.now]; decide) (D.modW hn) rfl (by first | exact hx8 | (show x / 8 * 8 % 8 = 0; omega))
       refine Xb [0] A H fun ac w A H => Xb [3, 0] A H fun ac w A H => ?_
       have A := A.re 172 (.bool ((((D.accessK k9 (⟨6, 0, ((x / 8) * 8), 0, 0, (⟨false, false, false, false⟩ : D.Perm), IntKind.i64.wrap (Int.tmod ((n : Nat) : Int) 3), 8, 0⟩ : D.Op)).a).err) != 0)) (.bool false) kr (by rw [hacc.1]; rfl)
       refine Xb [0, 0, 0, 0, 3, 0] A H fun ac w A H => ?_
       have A := A.re 178 (.bool (!(((D.accessK k9 (⟨6, 0, ((x / 8) * 8), 0, 0, (⟨false, false, false, false⟩ : D.Perm), IntKind.i64.wrap (Int.tmod ((n : Nat) : Int) 3), 8, 0⟩ : D.Op)).a).result.fault.is_))) (.bool false) kr (by rw [hacc.2.1]; rfl)
       refine Xb [0, 0, 0, 0, 0, 3, 0] A H fun ac w A H => ?_
       have A := A.re 185 (.bool (decide ((((D.accessK k9 (⟨6, 0, ((x / 8) * 8), 0, 0, (⟨false, false, false, false⟩ : D.Perm), IntKind.i64.wrap (Int.tmod ((n : Nat) : Int) 3), 8, 0⟩ : D.Op)).a).result.fault.cause) < 12))) (.bool false) kr (by rw [decide_eq_false (by have := hacc.2.2; omega)])
       refine Xb [0] A H fun ac w A H => XD (XT (Xf A (XK (XN (XT (XR (Xb [0, 0] A H fun ac w A H => ?_)))))))
       have A := A.re 147 (.int .i64 (IntKind.i64.wrap (((j : Nat) : Int) + 1))) (.int .i64 ((((j + 1) : Nat) : Int))) kr (SX.i_addN j 1 ko)
       refine Xb [0] A H fun ac w A H => XD (XT ?_)
       exact ⟨(j + 1), ⟨SX.bb H 0, SX.bb H 1, ko, A.sub _ kr, (H.pick [0, 1] _ kc kr).ro_pick [8, 9, 10, 11, 12] _ kr⟩, by show l.length + 1 - (j + 1) < l.length + 1 - j; omega⟩
     ·
      have A := A.rb 145 h5
      have h5p : ¬ (((j : Nat) : Int) ≤ ((l.length : Nat) : Int)) := kp h5
      refine Xf A (XI (XX (XX (XE (XT (XS (XR (Xb [0] A H fun ac w A H => XD (XT (XW (Xr [0] (.bool true) A H ?_)))))))))))
      rfl
end Go.Proofs.YtfkmcdkncmapmaaGreatDoor
