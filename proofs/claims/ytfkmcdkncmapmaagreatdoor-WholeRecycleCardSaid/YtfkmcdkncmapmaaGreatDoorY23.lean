/- Walks of functions, written by the session's own program wip/sx/sxgen.py; Lean checks them. -/
import Derived.Test.YtfkmcdkncmapmaaGreatDoorY02
import Derived.Test.YtfkmcdkncmapmaaGreatDoorY22
import Derived.Test.YtfkmcdkncmapmaaGreatDoorProg
set_option linter.unusedVariables false
set_option linter.unusedSimpArgs false
set_option maxRecDepth 100000
set_option maxHeartbeats 2000000
namespace Go.Proofs.YtfkmcdkncmapmaaGreatDoor
open Go Go.RowKit
theorem leads_calls {w0 w : World} {sl : List SX.Fact} {fb : SX.Boxes} {no : List Nat} (BA : Nat) (a : D.Acc)  (s1 s2 : SX.Sl) (hL : Ld w0) (hk : a.kind = 0 ∨ a.kind = 1 ∨ a.kind = 2) (hr : a.hart.satp.ppn < 4503599627370495) (ha : a.hart.satp.asid < 18446744073709551616) (ht : a.hart.tlb.Ok) (hx : a.addr < 18446744073709551616) (hms : a.mem.size ≤ 1099511627776) (he : a.hit.ok = true → a.hit.e.ppn < 17592186044416 ∧ (a.hit.e.level = 0 ∨ a.hit.e.level = 1 ∨ a.hit.e.level = 2)) (H : SX.Own w0 w [(BA, .cells (D.Acc.cs a s1 s2) 257 (0, 0))] ⟨D.tlbF s1 a.hart.tlb.sets :: D.memF s2 a.mem.f :: sl, fb, no⟩) : Calls Tryz.prog 180 #[.pointer (some ⟨BA, 0, none⟩)] w (fun e_ w' => ∃ v_, e_ = .returned v_ ∧ ∃ y1 y2 : SX.Sl, v_ = (.tuple #[.int .u64 ((((a.leads).at_ : Nat) : Int)), (D.Fault.enc ((a.leads).fault))]) ∧ SX.Own w0 w' [(BA, .cells (D.Acc.cs ((a.leads).acc) y1 y2) 257 (0, 0))] ⟨D.tlbF y1 (((a.leads).acc).hart.tlb.sets) :: D.memF y2 (((a.leads).acc).mem.f) :: sl, fb, no⟩) := by
 refine SX.enterA (args := [.pointer (some ⟨BA, 0, none⟩)]) 159 Tryz.func180 rfl kr fun ac A => XS (XR (Xb [0, 0] A H fun ac w A H => XD (XT (XS (XB (XS (XR (Xb [0, 0, 0, 0, 0] A H fun ac w A H => Xc A H (On_calls a.hart.satp w) fun ac w A H => Xb [0, 0] A H fun ac w A H => XD (XT ?_)))))))))
 refine Xs (decide (a.hart.satp.mode = 8)) (fun h1 => ?_) fun h1 => ?_
 ·
  have A := A.re 11 (.bool (!(decide (a.hart.satp.mode = 8)))) (.bool false) kr (by rw [h1]; rfl)
  refine Xf A (XS (XR (Xb [0, 0, 0, 0] A H fun ac w A H => Xc A H (Is_calls a.addr w) fun ac w A H => Xb [0, 0] A H fun ac w A H => XD (XT ?_))))
  refine Xs (isN a.addr) (fun h2 => ?_) fun h2 => ?_
  ·
   have A := A.re 24 (.bool (!(isN a.addr))) (.bool false) kr (by rw [h2]; rfl)
   refine Xf A (XK (XN (XT (XS (SX.drawn 26 [0] kr A H fun w H => SX.takes [0] [(0, none), (1, none), (2, none), (3, none), (4, some 0), (5, none), (6, none), (7, none), (8, none), (9, none), (10, some 0), (11, none), (12, none), (13, none), (14, some 0)] A H kr kd kr kr kr (Or.inl kr) fun ac A => ?_)))))
   let B1 := SX.bb H 1
   refine SX.joinD (fun ac w => ∃ B2 : Nat, SX.Agrees 159 ac [(0, .pointer (some ⟨BA, 0, none⟩)), (2, .int .u64 0), (3, .pointer (some ⟨B1, 0, none⟩)), (4, .pointer (some ⟨B2, 0, none⟩)), (57, (D.Entry.enc ((a.hart.tlb.find a.hart.satp.asid a.addr).e))), (58, .int .i64 ((((a.hart.tlb.find a.hart.satp.asid a.addr).i : Nat) : Int))), (59, .int .i64 ((a.hart.tlb.find a.hart.satp.asid a.addr).y)), (60, .bool ((a.hart.tlb.find a.hart.satp.asid a.addr).ok))] ∧ SX.Own w0 w [(BA, .cells (D.Acc.cs a s1 s2) 257 (0, 0)), (B1, .cells #[.bool false, .int .i64 0, .int .u64 0] 58 (0, 0)), (B2, .cells (D.Entry.cs (⟨false, 0, false, 0, 0, 0, (⟨false, false, false, false⟩ : D.Perm), false⟩ : D.Entry)) 270 (0, 0))] ⟨(D.tlbF s1 a.hart.tlb.sets) :: (D.memF s2 a.mem.f) :: sl, fb, no⟩) 4 (SX.msk 26 4194303) ?_ (fun hJ1 => ?_)
   · rintro ac w ⟨B2, A, H⟩
     refine SX.act 22 2 [0] A H kr kr kr (Or.inl kr) fun ac w A H => SX.takes [0] [(23, none), (24, none), (25, none)] A H kr kd kr kr kr (Or.inl kr) fun ac A => ?_
     refine SX.doneD kr ?_ _
     refine XT (XS (XS (XR (Xb [0, 0] A H fun ac w A H => ?_))))
     refine Xs ((a.hart.tlb.find a.hart.satp.asid a.addr).ok) (fun h3 => ?_) fun h3 => ?_
     ·
      have A := A.rb 62 h3
      refine Xb [0, 2] A H fun ac w A H => ?_
      have hm0 := H.fact' 0 (D.tlbF s1 a.hart.tlb.sets) kr
      have hm1 := H.fact' 1 (D.memF s2 a.mem.f) kr
      have H := H.learn (D.memF s2 a.mem.f) hm1
      have H := H.learn (D.tlbF s1 a.hart.tlb.sets) hm0
      have HL := H.lend 0 (p := (SX.bb H 0, .cells (D.Acc.cs a s1 s2) 257 (0, 0))) kr
      refine SX.callW A (fits_calls (SX.bb H 0) a ((a.hart.tlb.find a.hart.satp.asid a.addr).e) s1 s2 hL (by first | assumption | omega) HL) kr kr ?_
      rintro _ ac w ⟨z3, z4, rfl, H2⟩ A
      have H := H.back 0 (o := .cells (D.Acc.cs a s1 s2) 257 (0, 0)) kr H2
      have H := H.pick [0, 1, 2] [(SX.bb H 0, .cells (D.Acc.cs a z3 z4) 257 (0, 0)), (SX.bb H 1, .cells #[.bool false, .int .i64 0, .int .u64 0] 58 (0, 0)), (SX.bb H 2, .cells (D.Entry.cs ((a.hart.tlb.find a.hart.satp.asid a.addr).e)) 270 (0, 0))] kc kr
      refine Xb [0] A H fun ac w A H => XD (XT ?_)
      refine Xs (a.fits ((a.hart.tlb.find a.hart.satp.asid a.addr).e)) (fun h4 => ?_) fun h4 => ?_
      ·
       have A := A.rb 66 h4
       refine Xt A (XS (XR (Xb [0, 0, 0, 0, 0, 0, 0, 0] A H fun ac w A H => SX.call A H (tUse_calls a.hart.tlb ((a.hart.tlb.find a.hart.satp.asid a.addr).i) ((a.hart.tlb.find a.hart.satp.asid a.addr).y) z3 w H.nos_lt (H.fact' 0 (D.tlbF z3 a.hart.tlb.sets) kr) (hL.below H.below) ((D.Tlb.find_ok (by assumption)).1) (ht.n) ((D.Tlb.find_ok (by assumption)).2)) kr kr ?_)))
       rintro _ ac w ⟨z5, rfl, hz5⟩ A H
       have H := H.learn (D.tlbF z5 ((a.hart.tlb.use ((a.hart.tlb.find a.hart.satp.asid a.addr).i) ((a.hart.tlb.find a.hart.satp.asid a.addr).y)).sets)) hz5
       refine Xb [0, 0, 0, 0] A H fun ac w A H => XD (XT (XS (SX.drawn 9 [0, 2] kr A H fun w H => SX.takes [0, 2] [(0, some 1), (1, none), (2, none), (3, none), (4, some 0), (6, none)] A H kr kd kr kr kr (Or.inl kr) fun ac A => SX.callGD 5 [0, 2] A H (ePhys_calls ((a.hart.tlb.find a.hart.satp.asid a.addr).e) a.addr w (hL.below H.below) ko ((he (by assumption)).1) ((he (by assumption)).2)) kr kr kr kr (Or.inl kr) fun ac w A H => SX.takes [0, 2] [(7, none)] A H kr kd kr kr kr (Or.inl kr) fun ac A => SX.act 8 1 [0, 2] A H kr kr kr (Or.inl kr) fun ac w A H => ?_)))
       refine SX.doneD kr ?_ _
       refine XT (XW (XU ?_))
       have hf : D.Acc.leads a = ⟨⟨a.hart.withT (a.hart.tlb.use a.hit.i a.hit.y) a.hart.victim, a.mem, a.kind, a.addr⟩, a.hit.e.ppn * 4096 + offsetN a.addr a.hit.e.level, D.Fault.zero⟩ := by rw [D.Acc.leads, if_neg (by simpa using h1), if_neg (by rw [h2]; decide), if_pos ⟨h3, h4⟩]
       rw [hf]
       have hf0 := H.fact' 0 (D.tlbF z5 ((a.hart.tlb.use ((a.hart.tlb.find a.hart.satp.asid a.addr).i) ((a.hart.tlb.find a.hart.satp.asid a.addr).y)).sets)) kr
       have hf1 := H.fact' 2 (D.memF z4 a.mem.f) kr
       have H2 := H.ro_top 5 sl kr
       have H2 := H2.learn (D.memF z4 a.mem.f) hf1
       have H2 := H2.learn (D.tlbF z5 ((a.hart.tlb.use ((a.hart.tlb.find a.hart.satp.asid a.addr).i) ((a.hart.tlb.find a.hart.satp.asid a.addr).y)).sets)) hf0
       refine SX.retW [0, 1] ((.tuple #[.int .u64 (((((a.hart.tlb.find a.hart.satp.asid a.addr).e).ppn * 4096 + offsetN a.addr ((a.hart.tlb.find a.hart.satp.asid a.addr).e).level : Nat) : Int)), (D.Fault.enc (⟨false, 0, 0⟩ : D.Fault))])) A H kr kr kr ⟨_, rfl, z5, z4, ?_, H2.pick [0] [(BA, .cells (D.Acc.cs (⟨(⟨(a.hart.tlb.use ((a.hart.tlb.find a.hart.satp.asid a.addr).i) ((a.hart.tlb.find a.hart.satp.asid a.addr).y)), a.hart.satp, a.hart.priv, a.hart.sum, a.hart.mxr, a.hart.victim⟩ : D.Hart), a.mem, a.kind, a.addr⟩ : D.Acc) z5 z4) 257 (0, 0))] kc kr⟩
       rfl
      ·
       have A := A.rb 66 h4
       refine Xf A (XK (XT (XS (SX.drawn 34 [0] kr A H fun w H => SX.takes [0] [(0, none), (1, none), (2, none), (3, some 0), (4, none), (5, none), (6, none), (7, none), (8, none), (9, some 0), (10, none), (11, none), (12, none), (13, some 0), (14, none), (15, none), (16, none), (17, some 0), (18, none), (19, none), (20, none), (21, some 0)] A H kr kd kr kr kr (Or.inl kr) fun ac A => ?_))))
       let B1 := SX.bb H 1
       let B2 := SX.bb H 2
       refine SX.joinD (fun ac w => ∃ B3 B4 B5 : Nat, ∃ z6 : SX.Sl, SX.Agrees 159 ac [(0, .pointer (some ⟨BA, 0, none⟩)), (2, .int .u64 0), (3, .pointer (some ⟨B1, 0, none⟩)), (8, .pointer (some ⟨B3, 0, none⟩)), (9, .pointer (some ⟨B4, 0, none⟩)), (10, .pointer (some ⟨B5, 0, none⟩)), (111, (D.Mem.enc ((D.walkN a.mem a.hart.satp.ppn a.addr (⟨a.kind, a.hart.priv, a.hart.sum, a.hart.mxr⟩ : D.Way)).mem) z6)), (112, (D.Leaf.enc ((D.walkN a.mem a.hart.satp.ppn a.addr (⟨a.kind, a.hart.priv, a.hart.sum, a.hart.mxr⟩ : D.Way)).leaf))), (113, (D.Fault.enc ((D.walkN a.mem a.hart.satp.ppn a.addr (⟨a.kind, a.hart.priv, a.hart.sum, a.hart.mxr⟩ : D.Way)).fault)))] ∧ SX.Own w0 w [(BA, .cells (D.Acc.cs a z3 z4) 257 (0, 0)), (B1, .cells #[.bool false, .int .i64 0, .int .u64 0] 58 (0, 0)), (B2, .cells (D.Entry.cs ((a.hart.tlb.find a.hart.satp.asid a.addr).e)) 270 (0, 0)), (B3, .cells #[.int .u64 0, (.slice none 0 0)] 30 (0, 0)), (B4, .cells (D.Leaf.cs (⟨0, 0, (⟨false, false, false, false, false, false, false, false, 0, 0, 0⟩ : D.Pte)⟩ : D.Leaf)) 263 (0, 0)), (B5, .cells #[.bool false, .int .i64 0, .int .u64 0] 58 (0, 0))] ⟨(D.memF z6 (((D.walkN a.mem a.hart.satp.ppn a.addr (⟨a.kind, a.hart.priv, a.hart.sum, a.hart.mxr⟩ : D.Way)).mem).f)) :: (D.tlbF z3 a.hart.tlb.sets) :: (D.memF z4 a.mem.f) :: (D.tlbF s1 a.hart.tlb.sets) :: (D.memF s2 a.mem.f) :: sl, fb, no⟩) 3 (SX.msk 34 2147483647) ?_ (fun hJ2 => ?_)
       · rintro ac w ⟨B3, B4, B5, z6, A, H⟩
         refine SX.act 31 3 [0] A H kr kr kr (Or.inl kr) (k := 1) fun ac w A H => SX.act 32 4 [0] A H kr kr kr (Or.inl kr) (k := 1) fun ac w A H => SX.act 33 5 [0] A H kr kr kr (Or.inl kr) (k := 1) fun ac w A H => ?_
         refine SX.doneD kr ?_ _
         refine XT (XS (XS (XR (Xb [0, 5] A H fun ac w A H => XD (XT ?_)))))
         refine Xs (((D.walkN a.mem a.hart.satp.ppn a.addr (⟨a.kind, a.hart.priv, a.hart.sum, a.hart.mxr⟩ : D.Way)).fault).is_) (fun h5 => ?_) fun h5 => ?_
         ·
          have A := A.rb 115 h5
          refine Xt A (XS (SX.drawn 3 [5] kr A H fun w H => SX.takes [5] [(0, some 0), (1, none)] A H kr kd kr kr kr (Or.inl kr) fun ac A => SX.act 2 1 [5] A H kr kr kr (Or.inl kr) fun ac w A H => ?_))
          refine SX.doneD kr ?_ _
          refine XT (XW (XU ?_))
          have hf : D.Acc.leads a = ⟨a, 0, a.walk.fault⟩ := by rw [D.Acc.leads, if_neg (by simpa using h1), if_neg (by rw [h2]; decide), if_neg (fun hh => absurd (hh.2.symm.trans (show a.fits a.hit.e = false from h4)) kc), if_pos (show a.walk.fault.is_ = true from h5)]
          rw [hf]
          have hf0 := H.fact' 1 (D.tlbF z3 a.hart.tlb.sets) kr
          have hf1 := H.fact' 2 (D.memF z4 a.mem.f) kr
          have H2 := H.ro_top 5 sl kr
          have H2 := H2.learn (D.memF z4 a.mem.f) hf1
          have H2 := H2.learn (D.tlbF z3 a.hart.tlb.sets) hf0
          refine SX.retW [0, 1] ((.tuple #[.int .u64 0, (D.Fault.enc ((D.walkN a.mem a.hart.satp.ppn a.addr (⟨a.kind, a.hart.priv, a.hart.sum, a.hart.mxr⟩ : D.Way)).fault))])) A H kr kr kr ⟨_, rfl, z3, z4, ?_, H2.pick [0] [(BA, .cells (D.Acc.cs a z3 z4) 257 (0, 0))] kc kr⟩
          rfl
         ·
          have A := A.rb 115 h5
          refine Xf A (XK (XT (XS (XR (Xb [0, 3, 0, 0, 0] A H fun ac w A H => XD (XT (XS (SX.drawn 28 [0, 4] kr A H fun w H => SX.takes [0, 4] [(0, none), (1, none), (2, none), (3, none), (4, none), (5, none), (6, some 0), (7, some 1), (8, none), (9, none), (10, none), (11, some 0), (12, none), (13, none), (14, none), (15, none), (16, none), (17, some 0), (19, none), (20, none), (21, none), (22, none), (23, some 0)] A H kr kd kr kr kr (Or.inl kr) fun ac A => SX.callGD 18 [0, 4] A H (eOf_calls ((D.walkN a.mem a.hart.satp.ppn a.addr (⟨a.kind, a.hart.priv, a.hart.sum, a.hart.mxr⟩ : D.Way)).leaf) a.addr a.hart.satp.asid w (hL.below H.below) ko (D.walkN_lv _ _ _ _)) kr kr kr kr (Or.inl kr) fun ac w A H => SX.callD 24 [0, 4] A H (tPut_calls a.hart.tlb (D.Entry.of ((D.walkN a.mem a.hart.satp.ppn a.addr (⟨a.kind, a.hart.priv, a.hart.sum, a.hart.mxr⟩ : D.Way)).leaf) a.addr a.hart.satp.asid) a.hart.victim z3 w H.nos_lt (H.fact' 1 (D.tlbF z3 a.hart.tlb.sets) kr) (hL.below H.below) (by assumption) (rfl) (D.walkN_lv _ _ _ _) (Nat.lt_trans (numberN_lt _) kc) (Nat.lt_trans (D.walkN_ppn _ _ _ _) kc) (ha)) kr kr kr kr (Or.inl kr) ?_))))))))
          rintro _ ac w ⟨z14, rfl, hz14⟩ A H
          have H := H.learn (D.tlbF z14 ((a.hart.tlb.put (D.Entry.of ((D.walkN a.mem a.hart.satp.ppn a.addr (⟨a.kind, a.hart.priv, a.hart.sum, a.hart.mxr⟩ : D.Way)).leaf) a.addr a.hart.satp.asid) a.hart.victim).sets)) hz14
          refine SX.takes [0, 4] [(25, none), (26, none), (27, none)] A H kr kd kr kr kr (Or.inl kr) (k := 1) fun ac A => SX.act 28 0 [0, 4] A H kr kr kr (Or.inr kr) (k := 1) fun ac w A H => SX.takes [0, 4] [(29, none), (30, none), (31, none)] A H kr kd kr kr kr (Or.inr kr) (k := 1) fun ac A => SX.act 32 0 [0, 4] A H kr kr kr (Or.inr kr) (k := 1) fun ac w A H => ?_
          refine SX.doneD kr ?_ _
          refine XT (XS (SX.drawn 9 [0, 4] kr A H fun w H => SX.takes [0, 4] [(0, some 1), (1, none), (2, none), (3, none), (4, some 0), (6, none)] A H kr kd kr kr kr (Or.inl kr) fun ac A => SX.callGD 5 [0, 4] A H (lPhys_calls ((D.walkN a.mem a.hart.satp.ppn a.addr (⟨a.kind, a.hart.priv, a.hart.sum, a.hart.mxr⟩ : D.Way)).leaf) a.addr w (hL.below H.below) ko (D.walkN_ppn _ _ _ _) (D.walkN_lv _ _ _ _)) kr kr kr kr (Or.inl kr) fun ac w A H => SX.takes [0, 4] [(7, none)] A H kr kd kr kr kr (Or.inl kr) fun ac A => SX.act 8 1 [0, 4] A H kr kr kr (Or.inl kr) fun ac w A H => ?_))
          refine SX.doneD kr ?_ _
          refine XT (XW ?_)
          have hf : D.Acc.leads a = ⟨⟨a.hart.withT (a.hart.tlb.put (D.Entry.of a.walk.leaf a.addr a.hart.satp.asid) a.hart.victim) (-1), a.walk.mem, a.kind, a.addr⟩, a.walk.leaf.pte.ppn * 4096 + offsetN a.addr a.walk.leaf.level, D.Fault.zero⟩ := by rw [D.Acc.leads, if_neg (by simpa using h1), if_neg (by rw [h2]; decide), if_neg (fun hh => absurd (hh.2.symm.trans (show a.fits a.hit.e = false from h4)) kc), if_neg (fun hh => absurd (hh.symm.trans (show a.walk.fault.is_ = false from h5)) kc)]
          rw [hf]
          have hf0 := H.fact' 0 (D.tlbF z14 ((a.hart.tlb.put (D.Entry.of ((D.walkN a.mem a.hart.satp.ppn a.addr (⟨a.kind, a.hart.priv, a.hart.sum, a.hart.mxr⟩ : D.Way)).leaf) a.addr a.hart.satp.asid) a.hart.victim).sets)) kr
          have hf1 := H.fact' 1 (D.memF z6 (((D.walkN a.mem a.hart.satp.ppn a.addr (⟨a.kind, a.hart.priv, a.hart.sum, a.hart.mxr⟩ : D.Way)).mem).f)) kr
          have H2 := H.ro_top 6 sl kr
          have H2 := H2.learn (D.memF z6 (((D.walkN a.mem a.hart.satp.ppn a.addr (⟨a.kind, a.hart.priv, a.hart.sum, a.hart.mxr⟩ : D.Way)).mem).f)) hf1
          have H2 := H2.learn (D.tlbF z14 ((a.hart.tlb.put (D.Entry.of ((D.walkN a.mem a.hart.satp.ppn a.addr (⟨a.kind, a.hart.priv, a.hart.sum, a.hart.mxr⟩ : D.Way)).leaf) a.addr a.hart.satp.asid) a.hart.victim).sets)) hf0
          refine SX.retW [0, 1] ((.tuple #[.int .u64 (((((D.walkN a.mem a.hart.satp.ppn a.addr (⟨a.kind, a.hart.priv, a.hart.sum, a.hart.mxr⟩ : D.Way)).leaf).pte.ppn * 4096 + offsetN a.addr ((D.walkN a.mem a.hart.satp.ppn a.addr (⟨a.kind, a.hart.priv, a.hart.sum, a.hart.mxr⟩ : D.Way)).leaf).level : Nat) : Int)), (D.Fault.enc (⟨false, 0, 0⟩ : D.Fault))])) A H kr kr kr ⟨_, rfl, z14, z6, ?_, H2.pick [0] [(BA, .cells (D.Acc.cs (⟨(⟨(a.hart.tlb.put (D.Entry.of ((D.walkN a.mem a.hart.satp.ppn a.addr (⟨a.kind, a.hart.priv, a.hart.sum, a.hart.mxr⟩ : D.Way)).leaf) a.addr a.hart.satp.asid) a.hart.victim), a.hart.satp, a.hart.priv, a.hart.sum, a.hart.mxr, (-1)⟩ : D.Hart), ((D.walkN a.mem a.hart.satp.ppn a.addr (⟨a.kind, a.hart.priv, a.hart.sum, a.hart.mxr⟩ : D.Way)).mem), a.kind, a.addr⟩ : D.Acc) z14 z6) 257 (0, 0))] kc kr⟩
          rfl
       refine SX.joinD (fun ac w => ∃ B3 B4 : Nat, ∃ z7 : SX.Sl, SX.Agrees 159 ac [(0, .pointer (some ⟨BA, 0, none⟩)), (2, .int .u64 0), (3, .pointer (some ⟨B1, 0, none⟩)), (9, .pointer (some ⟨B3, 0, none⟩)), (10, .pointer (some ⟨B4, 0, none⟩)), (111, (D.Mem.enc ((D.walkN a.mem a.hart.satp.ppn a.addr (⟨a.kind, a.hart.priv, a.hart.sum, a.hart.mxr⟩ : D.Way)).mem) z7)), (112, (D.Leaf.enc ((D.walkN a.mem a.hart.satp.ppn a.addr (⟨a.kind, a.hart.priv, a.hart.sum, a.hart.mxr⟩ : D.Way)).leaf))), (113, (D.Fault.enc ((D.walkN a.mem a.hart.satp.ppn a.addr (⟨a.kind, a.hart.priv, a.hart.sum, a.hart.mxr⟩ : D.Way)).fault)))] ∧ SX.Own w0 w [(BA, .cells (D.Acc.cs a z3 z4) 257 (0, 0)), (B1, .cells #[.bool false, .int .i64 0, .int .u64 0] 58 (0, 0)), (B2, .cells (D.Entry.cs ((a.hart.tlb.find a.hart.satp.asid a.addr).e)) 270 (0, 0)), (B3, .cells (D.Leaf.cs (⟨0, 0, (⟨false, false, false, false, false, false, false, false, 0, 0, 0⟩ : D.Pte)⟩ : D.Leaf)) 263 (0, 0)), (B4, .cells #[.bool false, .int .i64 0, .int .u64 0] 58 (0, 0))] ⟨(D.memF z7 (((D.walkN a.mem a.hart.satp.ppn a.addr (⟨a.kind, a.hart.priv, a.hart.sum, a.hart.mxr⟩ : D.Way)).mem).f)) :: (D.tlbF z3 a.hart.tlb.sets) :: (D.memF z4 a.mem.f) :: (D.tlbF s1 a.hart.tlb.sets) :: (D.memF s2 a.mem.f) :: sl, fb, no⟩) 4 (SX.msk 34 1879048191) ?_ (fun hJ3 => ?_)
       · rintro ac w ⟨B3, B4, z7, A, H⟩
         refine SX.act 28 0 [0] A H kr kr kr (Or.inl kr) (k := 1) fun ac w A H => ?_
         exact SX.useD hJ2 kr kr ⟨SX.bb H 5, SX.bb H 3, SX.bb H 4, z7, A.sub _ kr, (H.pick [0, 1, 2, 5, 3, 4] _ kc kr).ro_pickT [0, 1, 2, 3, 4] 5 _ kr⟩
       refine SX.joinD (fun ac w => ∃ B3 B4 : Nat, ∃ z8 : SX.Sl, SX.Agrees 159 ac [(0, .pointer (some ⟨BA, 0, none⟩)), (2, .int .u64 0), (3, .pointer (some ⟨B1, 0, none⟩)), (8, .pointer (some ⟨B3, 0, none⟩)), (10, .pointer (some ⟨B4, 0, none⟩)), (111, (D.Mem.enc ((D.walkN a.mem a.hart.satp.ppn a.addr (⟨a.kind, a.hart.priv, a.hart.sum, a.hart.mxr⟩ : D.Way)).mem) z8)), (112, (D.Leaf.enc ((D.walkN a.mem a.hart.satp.ppn a.addr (⟨a.kind, a.hart.priv, a.hart.sum, a.hart.mxr⟩ : D.Way)).leaf))), (113, (D.Fault.enc ((D.walkN a.mem a.hart.satp.ppn a.addr (⟨a.kind, a.hart.priv, a.hart.sum, a.hart.mxr⟩ : D.Way)).fault)))] ∧ SX.Own w0 w [(BA, .cells (D.Acc.cs a z3 z4) 257 (0, 0)), (B1, .cells #[.bool false, .int .i64 0, .int .u64 0] 58 (0, 0)), (B2, .cells (D.Entry.cs ((a.hart.tlb.find a.hart.satp.asid a.addr).e)) 270 (0, 0)), (B3, .cells #[.int .u64 0, (.slice none 0 0)] 30 (0, 0)), (B4, .cells #[.bool false, .int .i64 0, .int .u64 0] 58 (0, 0))] ⟨(D.memF z8 (((D.walkN a.mem a.hart.satp.ppn a.addr (⟨a.kind, a.hart.priv, a.hart.sum, a.hart.mxr⟩ : D.Way)).mem).f)) :: (D.tlbF z3 a.hart.tlb.sets) :: (D.memF z4 a.mem.f) :: (D.tlbF s1 a.hart.tlb.sets) :: (D.memF s2 a.mem.f) :: sl, fb, no⟩) 4 (SX.msk 34 1610612735) ?_ (fun hJ4 => ?_)
       · rintro ac w ⟨B3, B4, z8, A, H⟩
         refine SX.act 29 0 [0] A H kr kr kr (Or.inl kr) (k := 1) fun ac w A H => ?_
         exact SX.useD hJ2 kr kr ⟨SX.bb H 3, SX.bb H 5, SX.bb H 4, z8, A.sub _ kr, (H.pick [0, 1, 2, 3, 5, 4] _ kc kr).ro_pickT [0, 1, 2, 3, 4] 5 _ kr⟩
       refine SX.joinD (fun ac w => ∃ B3 B4 : Nat, ∃ z10 : SX.Sl, SX.Agrees 159 ac [(0, .pointer (some ⟨BA, 0, none⟩)), (2, .int .u64 0), (3, .pointer (some ⟨B1, 0, none⟩)), (8, .pointer (some ⟨B3, 0, none⟩)), (9, .pointer (some ⟨B4, 0, none⟩)), (111, (D.Mem.enc ((D.walkN a.mem a.hart.satp.ppn a.addr (⟨a.kind, a.hart.priv, a.hart.sum, a.hart.mxr⟩ : D.Way)).mem) z10)), (112, (D.Leaf.enc ((D.walkN a.mem a.hart.satp.ppn a.addr (⟨a.kind, a.hart.priv, a.hart.sum, a.hart.mxr⟩ : D.Way)).leaf))), (113, (D.Fault.enc ((D.walkN a.mem a.hart.satp.ppn a.addr (⟨a.kind, a.hart.priv, a.hart.sum, a.hart.mxr⟩ : D.Way)).fault)))] ∧ SX.Own w0 w [(BA, .cells (D.Acc.cs a z3 z4) 257 (0, 0)), (B1, .cells #[.bool false, .int .i64 0, .int .u64 0] 58 (0, 0)), (B2, .cells (D.Entry.cs ((a.hart.tlb.find a.hart.satp.asid a.addr).e)) 270 (0, 0)), (B3, .cells #[.int .u64 0, (.slice none 0 0)] 30 (0, 0)), (B4, .cells (D.Leaf.cs (⟨0, 0, (⟨false, false, false, false, false, false, false, false, 0, 0, 0⟩ : D.Pte)⟩ : D.Leaf)) 263 (0, 0))] ⟨(D.memF z10 (((D.walkN a.mem a.hart.satp.ppn a.addr (⟨a.kind, a.hart.priv, a.hart.sum, a.hart.mxr⟩ : D.Way)).mem).f)) :: (D.tlbF z3 a.hart.tlb.sets) :: (D.memF z4 a.mem.f) :: (D.tlbF s1 a.hart.tlb.sets) :: (D.memF s2 a.mem.f) :: sl, fb, no⟩) 4 (SX.msk 34 1073741823) ?_ (fun hJ5 => ?_)
       · rintro ac w ⟨B3, B4, z10, A, H⟩
         refine SX.act 30 0 [0] A H kr kr kr (Or.inl kr) (k := 1) fun ac w A H => ?_
         exact SX.useD hJ2 kr kr ⟨SX.bb H 3, SX.bb H 4, SX.bb H 5, z10, A.sub _ kr, (H.pick [0, 1, 2, 3, 4, 5] _ kc kr).ro_pickT [0, 1, 2, 3, 4] 5 _ kr⟩
       refine SX.joinD (fun ac w => ∃ B3 : Nat, ∃ z9 : SX.Sl, SX.Agrees 159 ac [(0, .pointer (some ⟨BA, 0, none⟩)), (2, .int .u64 0), (3, .pointer (some ⟨B1, 0, none⟩)), (10, .pointer (some ⟨B3, 0, none⟩)), (111, (D.Mem.enc ((D.walkN a.mem a.hart.satp.ppn a.addr (⟨a.kind, a.hart.priv, a.hart.sum, a.hart.mxr⟩ : D.Way)).mem) z9)), (112, (D.Leaf.enc ((D.walkN a.mem a.hart.satp.ppn a.addr (⟨a.kind, a.hart.priv, a.hart.sum, a.hart.mxr⟩ : D.Way)).leaf))), (113, (D.Fault.enc ((D.walkN a.mem a.hart.satp.ppn a.addr (⟨a.kind, a.hart.priv, a.hart.sum, a.hart.mxr⟩ : D.Way)).fault)))] ∧ SX.Own w0 w [(BA, .cells (D.Acc.cs a z3 z4) 257 (0, 0)), (B1, .cells #[.bool false, .int .i64 0, .int .u64 0] 58 (0, 0)), (B2, .cells (D.Entry.cs ((a.hart.tlb.find a.hart.satp.asid a.addr).e)) 270 (0, 0)), (B3, .cells #[.bool false, .int .i64 0, .int .u64 0] 58 (0, 0))] ⟨(D.memF z9 (((D.walkN a.mem a.hart.satp.ppn a.addr (⟨a.kind, a.hart.priv, a.hart.sum, a.hart.mxr⟩ : D.Way)).mem).f)) :: (D.tlbF z3 a.hart.tlb.sets) :: (D.memF z4 a.mem.f) :: (D.tlbF s1 a.hart.tlb.sets) :: (D.memF s2 a.mem.f) :: sl, fb, no⟩) 5 (SX.msk 34 1342177279) ?_ (fun hJ6 => ?_)
       · rintro ac w ⟨B3, z9, A, H⟩
         refine SX.many 28 [29] kr kr (SX.allC_cons ?_ (SX.allC_cons ?_ SX.allC_nil))
         ·
          refine SX.act_op 28 0 [0] A H kr (Or.inl kr) (k := 1) fun ac w A H => ?_
          exact SX.useD hJ4 kr kr ⟨SX.bb H 4, SX.bb H 3, z9, A.sub _ kr, (H.pick [0, 1, 2, 4, 3] _ kc kr).ro_pickT [0, 1, 2, 3, 4] 5 _ kr⟩
         ·
          refine SX.act_op 29 0 [0] A H kr (Or.inl kr) (k := 1) fun ac w A H => ?_
          exact SX.useD hJ3 kr kr ⟨SX.bb H 4, SX.bb H 3, z9, A.sub _ kr, (H.pick [0, 1, 2, 4, 3] _ kc kr).ro_pickT [0, 1, 2, 3, 4] 5 _ kr⟩
       refine SX.joinD (fun ac w => ∃ B3 : Nat, ∃ z11 : SX.Sl, SX.Agrees 159 ac [(0, .pointer (some ⟨BA, 0, none⟩)), (2, .int .u64 0), (3, .pointer (some ⟨B1, 0, none⟩)), (9, .pointer (some ⟨B3, 0, none⟩)), (111, (D.Mem.enc ((D.walkN a.mem a.hart.satp.ppn a.addr (⟨a.kind, a.hart.priv, a.hart.sum, a.hart.mxr⟩ : D.Way)).mem) z11)), (112, (D.Leaf.enc ((D.walkN a.mem a.hart.satp.ppn a.addr (⟨a.kind, a.hart.priv, a.hart.sum, a.hart.mxr⟩ : D.Way)).leaf))), (113, (D.Fault.enc ((D.walkN a.mem a.hart.satp.ppn a.addr (⟨a.kind, a.hart.priv, a.hart.sum, a.hart.mxr⟩ : D.Way)).fault)))] ∧ SX.Own w0 w [(BA, .cells (D.Acc.cs a z3 z4) 257 (0, 0)), (B1, .cells #[.bool false, .int .i64 0, .int .u64 0] 58 (0, 0)), (B2, .cells (D.Entry.cs ((a.hart.tlb.find a.hart.satp.asid a.addr).e)) 270 (0, 0)), (B3, .cells (D.Leaf.cs (⟨0, 0, (⟨false, false, false, false, false, false, false, false, 0, 0, 0⟩ : D.Pte)⟩ : D.Leaf)) 263 (0, 0))] ⟨(D.memF z11 (((D.walkN a.mem a.hart.satp.ppn a.addr (⟨a.kind, a.hart.priv, a.hart.sum, a.hart.mxr⟩ : D.Way)).mem).f)) :: (D.tlbF z3 a.hart.tlb.sets) :: (D.memF z4 a.mem.f) :: (D.tlbF s1 a.hart.tlb.sets) :: (D.memF s2 a.mem.f) :: sl, fb, no⟩) 5 (SX.msk 34 805306367) ?_ (fun hJ7 => ?_)
       · rintro ac w ⟨B3, z11, A, H⟩
         refine SX.many 28 [30] kr kr (SX.allC_cons ?_ (SX.allC_cons ?_ SX.allC_nil))
         ·
          refine SX.act_op 28 0 [0] A H kr (Or.inl kr) (k := 1) fun ac w A H => ?_
          exact SX.useD hJ5 kr kr ⟨SX.bb H 4, SX.bb H 3, z11, A.sub _ kr, (H.pick [0, 1, 2, 4, 3] _ kc kr).ro_pickT [0, 1, 2, 3, 4] 5 _ kr⟩
         ·
          refine SX.act_op 30 0 [0] A H kr (Or.inl kr) (k := 1) fun ac w A H => ?_
          exact SX.useD hJ3 kr kr ⟨SX.bb H 3, SX.bb H 4, z11, A.sub _ kr, (H.pick [0, 1, 2, 3, 4] _ kc kr).ro_pickT [0, 1, 2, 3, 4] 5 _ kr⟩
       refine SX.joinD (fun ac w => ∃ B3 : Nat, ∃ z12 : SX.Sl, SX.Agrees 159 ac [(0, .pointer (some ⟨BA, 0, none⟩)), (2, .int .u64 0), (3, .pointer (some ⟨B1, 0, none⟩)), (8, .pointer (some ⟨B3, 0, none⟩)), (111, (D.Mem.enc ((D.walkN a.mem a.hart.satp.ppn a.addr (⟨a.kind, a.hart.priv, a.hart.sum, a.hart.mxr⟩ : D.Way)).mem) z12)), (112, (D.Leaf.enc ((D.walkN a.mem a.hart.satp.ppn a.addr (⟨a.kind, a.hart.priv, a.hart.sum, a.hart.mxr⟩ : D.Way)).leaf))), (113, (D.Fault.enc ((D.walkN a.mem a.hart.satp.ppn a.addr (⟨a.kind, a.hart.priv, a.hart.sum, a.hart.mxr⟩ : D.Way)).fault)))] ∧ SX.Own w0 w [(BA, .cells (D.Acc.cs a z3 z4) 257 (0, 0)), (B1, .cells #[.bool false, .int .i64 0, .int .u64 0] 58 (0, 0)), (B2, .cells (D.Entry.cs ((a.hart.tlb.find a.hart.satp.asid a.addr).e)) 270 (0, 0)), (B3, .cells #[.int .u64 0, (.slice none 0 0)] 30 (0, 0))] ⟨(D.memF z12 (((D.walkN a.mem a.hart.satp.ppn a.addr (⟨a.kind, a.hart.priv, a.hart.sum, a.hart.mxr⟩ : D.Way)).mem).f)) :: (D.tlbF z3 a.hart.tlb.sets) :: (D.memF z4 a.mem.f) :: (D.tlbF s1 a.hart.tlb.sets) :: (D.memF s2 a.mem.f) :: sl, fb, no⟩) 5 (SX.msk 34 536870911) ?_ (fun hJ8 => ?_)
       · rintro ac w ⟨B3, z12, A, H⟩
         refine SX.many 29 [30] kr kr (SX.allC_cons ?_ (SX.allC_cons ?_ SX.allC_nil))
         ·
          refine SX.act_op 29 0 [0] A H kr (Or.inl kr) (k := 1) fun ac w A H => ?_
          exact SX.useD hJ5 kr kr ⟨SX.bb H 3, SX.bb H 4, z12, A.sub _ kr, (H.pick [0, 1, 2, 3, 4] _ kc kr).ro_pickT [0, 1, 2, 3, 4] 5 _ kr⟩
         ·
          refine SX.act_op 30 0 [0] A H kr (Or.inl kr) (k := 1) fun ac w A H => ?_
          exact SX.useD hJ4 kr kr ⟨SX.bb H 3, SX.bb H 4, z12, A.sub _ kr, (H.pick [0, 1, 2, 3, 4] _ kc kr).ro_pickT [0, 1, 2, 3, 4] 5 _ kr⟩
       refine SX.joinD (fun ac w => ∃ B3 B4 B5 : Nat, SX.Agrees 159 ac [(0, .pointer (some ⟨BA, 0, none⟩)), (2, .int .u64 0), (3, .pointer (some ⟨B1, 0, none⟩)), (8, .pointer (some ⟨B3, 0, none⟩)), (9, .pointer (some ⟨B4, 0, none⟩)), (10, .pointer (some ⟨B5, 0, none⟩)), (90, (D.Mem.enc a.mem z4)), (96, .int .u64 (((a.hart.satp.ppn : Nat) : Int))), (100, .int .u64 (((a.addr : Nat) : Int))), (109, (D.Way.enc (⟨a.kind, a.hart.priv, a.hart.sum, a.hart.mxr⟩ : D.Way)))] ∧ SX.Own w0 w [(BA, .cells (D.Acc.cs a z3 z4) 257 (0, 0)), (B1, .cells #[.bool false, .int .i64 0, .int .u64 0] 58 (0, 0)), (B2, .cells (D.Entry.cs ((a.hart.tlb.find a.hart.satp.asid a.addr).e)) 270 (0, 0)), (B3, .cells #[.int .u64 0, (.slice none 0 0)] 30 (0, 0)), (B4, .cells (D.Leaf.cs (⟨0, 0, (⟨false, false, false, false, false, false, false, false, 0, 0, 0⟩ : D.Pte)⟩ : D.Leaf)) 263 (0, 0)), (B5, .cells #[.bool false, .int .i64 0, .int .u64 0] 58 (0, 0))] ⟨(D.tlbF z3 a.hart.tlb.sets) :: (D.memF z4 a.mem.f) :: (D.tlbF s1 a.hart.tlb.sets) :: (D.memF s2 a.mem.f) :: sl, fb, no⟩) 8 (SX.msk 34 1887436799) ?_ (fun hJ9 => ?_)
       · rintro ac w ⟨B3, B4, B5, A, H⟩
         refine SX.callD 23 [0] A H (Walk_calls a.mem a.hart.satp.ppn a.addr (⟨a.kind, a.hart.priv, a.hart.sum, a.hart.mxr⟩ : D.Way) z4 w H.nos_lt (H.fact' 1 (D.memF z4 a.mem.f) kr) (hL.below H.below) ko ko (hk) (by first | assumption | omega)) kr kr kr kr (Or.inl kr) ?_
         rintro _ ac w ⟨z15, rfl, hz15⟩ A H
         have H := H.learn (D.memF z15 (((D.walkN a.mem a.hart.satp.ppn a.addr (⟨a.kind, a.hart.priv, a.hart.sum, a.hart.mxr⟩ : D.Way)).mem).f)) hz15
         refine SX.takes [0] [(24, none), (25, none), (26, none), (27, none)] A H kr kd kr kr kr (Or.inl kr) (k := 1) fun ac A => ?_
         exact SX.useD hJ2 kr kr ⟨SX.bb H 3, SX.bb H 4, SX.bb H 5, z15, A.sub _ kr, (H.pick [0, 1, 2, 3, 4, 5] _ kc kr).ro_pickT [0, 1, 2, 3, 4] 5 _ kr⟩
       refine SX.joinD (fun ac w => ∃ B3 B4 : Nat, SX.Agrees 159 ac [(0, .pointer (some ⟨BA, 0, none⟩)), (2, .int .u64 0), (3, .pointer (some ⟨B1, 0, none⟩)), (9, .pointer (some ⟨B3, 0, none⟩)), (10, .pointer (some ⟨B4, 0, none⟩)), (90, (D.Mem.enc a.mem z4)), (96, .int .u64 (((a.hart.satp.ppn : Nat) : Int))), (100, .int .u64 (((a.addr : Nat) : Int))), (109, (D.Way.enc (⟨a.kind, a.hart.priv, a.hart.sum, a.hart.mxr⟩ : D.Way)))] ∧ SX.Own w0 w [(BA, .cells (D.Acc.cs a z3 z4) 257 (0, 0)), (B1, .cells #[.bool false, .int .i64 0, .int .u64 0] 58 (0, 0)), (B2, .cells (D.Entry.cs ((a.hart.tlb.find a.hart.satp.asid a.addr).e)) 270 (0, 0)), (B3, .cells (D.Leaf.cs (⟨0, 0, (⟨false, false, false, false, false, false, false, false, 0, 0, 0⟩ : D.Pte)⟩ : D.Leaf)) 263 (0, 0)), (B4, .cells #[.bool false, .int .i64 0, .int .u64 0] 58 (0, 0))] ⟨(D.tlbF z3 a.hart.tlb.sets) :: (D.memF z4 a.mem.f) :: (D.tlbF s1 a.hart.tlb.sets) :: (D.memF s2 a.mem.f) :: sl, fb, no⟩) 9 (SX.msk 34 1619001343) ?_ (fun hJ10 => ?_)
       · rintro ac w ⟨B3, B4, A, H⟩
         refine SX.many 23 [28] kr kr (SX.allC_cons ?_ (SX.allC_cons ?_ SX.allC_nil))
         ·
          refine SX.callD_op 23 [0] A H (Walk_calls a.mem a.hart.satp.ppn a.addr (⟨a.kind, a.hart.priv, a.hart.sum, a.hart.mxr⟩ : D.Way) z4 w H.nos_lt (H.fact' 1 (D.memF z4 a.mem.f) kr) (hL.below H.below) ko ko (hk) (by first | assumption | omega)) kr kr (Or.inl kr) ?_
          rintro _ ac w ⟨z16, rfl, hz16⟩ A H
          have H := H.learn (D.memF z16 (((D.walkN a.mem a.hart.satp.ppn a.addr (⟨a.kind, a.hart.priv, a.hart.sum, a.hart.mxr⟩ : D.Way)).mem).f)) hz16
          refine SX.takes [0] [(24, none), (25, none), (26, none), (27, none)] A H kr kd kr kr kr (Or.inl kr) (k := 1) fun ac A => ?_
          exact SX.useD hJ3 kr kr ⟨SX.bb H 3, SX.bb H 4, z16, A.sub _ kr, (H.pick [0, 1, 2, 3, 4] _ kc kr).ro_pickT [0, 1, 2, 3, 4] 5 _ kr⟩
         ·
          refine SX.act_op 28 0 [0] A H kr (Or.inl kr) fun ac w A H => ?_
          exact SX.useD hJ9 kr kr ⟨SX.bb H 5, SX.bb H 3, SX.bb H 4, A.sub _ kr, (H.pick [0, 1, 2, 5, 3, 4] _ kc kr).ro_pickT [0, 1, 2, 3] 4 _ kr⟩
       refine SX.joinD (fun ac w => ∃ B3 B4 B5 : Nat, SX.Agrees 159 ac [(0, .pointer (some ⟨BA, 0, none⟩)), (2, .int .u64 0), (3, .pointer (some ⟨B1, 0, none⟩)), (8, .pointer (some ⟨B3, 0, none⟩)), (9, .pointer (some ⟨B4, 0, none⟩)), (10, .pointer (some ⟨B5, 0, none⟩)), (90, (D.Mem.enc a.mem z4)), (96, .int .u64 (((a.hart.satp.ppn : Nat) : Int))), (100, .int .u64 (((a.addr : Nat) : Int))), (104, (D.Hart.enc a.hart z3)), (108, .int .i64 (a.kind))] ∧ SX.Own w0 w [(BA, .cells (D.Acc.cs a z3 z4) 257 (0, 0)), (B1, .cells #[.bool false, .int .i64 0, .int .u64 0] 58 (0, 0)), (B2, .cells (D.Entry.cs ((a.hart.tlb.find a.hart.satp.asid a.addr).e)) 270 (0, 0)), (B3, .cells #[.int .u64 0, (.slice none 0 0)] 30 (0, 0)), (B4, .cells (D.Leaf.cs (⟨0, 0, (⟨false, false, false, false, false, false, false, false, 0, 0, 0⟩ : D.Pte)⟩ : D.Leaf)) 263 (0, 0)), (B5, .cells #[.bool false, .int .i64 0, .int .u64 0] 58 (0, 0))] ⟨(D.tlbF z3 a.hart.tlb.sets) :: (D.memF z4 a.mem.f) :: (D.tlbF s1 a.hart.tlb.sets) :: (D.memF s2 a.mem.f) :: sl, fb, no⟩) 9 (SX.msk 34 1883242495) ?_ (fun hJ11 => ?_)
       · rintro ac w ⟨B3, B4, B5, A, H⟩
         refine SX.callGD 22 [0] A H (Way_calls a.hart a.kind z3 w H.nos_lt (H.fact' 0 (D.tlbF z3 a.hart.tlb.sets) kr)) kr kr kr kr (Or.inl kr) fun ac w A H => ?_
         exact SX.useD hJ9 kr kr ⟨SX.bb H 3, SX.bb H 4, SX.bb H 5, A.sub _ kr, (H.pick [0, 1, 2, 3, 4, 5] _ kc kr).ro_pickT [0, 1, 2, 3] 4 _ kr⟩
       refine SX.joinD (fun ac w => ∃ B3 B4 : Nat, SX.Agrees 159 ac [(0, .pointer (some ⟨BA, 0, none⟩)), (2, .int .u64 0), (3, .pointer (some ⟨B1, 0, none⟩)), (8, .pointer (some ⟨B3, 0, none⟩)), (10, .pointer (some ⟨B4, 0, none⟩)), (90, (D.Mem.enc a.mem z4)), (96, .int .u64 (((a.hart.satp.ppn : Nat) : Int))), (100, .int .u64 (((a.addr : Nat) : Int))), (109, (D.Way.enc (⟨a.kind, a.hart.priv, a.hart.sum, a.hart.mxr⟩ : D.Way)))] ∧ SX.Own w0 w [(BA, .cells (D.Acc.cs a z3 z4) 257 (0, 0)), (B1, .cells #[.bool false, .int .i64 0, .int .u64 0] 58 (0, 0)), (B2, .cells (D.Entry.cs ((a.hart.tlb.find a.hart.satp.asid a.addr).e)) 270 (0, 0)), (B3, .cells #[.int .u64 0, (.slice none 0 0)] 30 (0, 0)), (B4, .cells #[.bool false, .int .i64 0, .int .u64 0] 58 (0, 0))] ⟨(D.tlbF z3 a.hart.tlb.sets) :: (D.memF z4 a.mem.f) :: (D.tlbF s1 a.hart.tlb.sets) :: (D.memF s2 a.mem.f) :: sl, fb, no⟩) 9 (SX.msk 34 1350565887) ?_ (fun hJ12 => ?_)
       · rintro ac w ⟨B3, B4, A, H⟩
         refine SX.many 23 [29] kr kr (SX.allC_cons ?_ (SX.allC_cons ?_ SX.allC_nil))
         ·
          refine SX.callD_op 23 [0] A H (Walk_calls a.mem a.hart.satp.ppn a.addr (⟨a.kind, a.hart.priv, a.hart.sum, a.hart.mxr⟩ : D.Way) z4 w H.nos_lt (H.fact' 1 (D.memF z4 a.mem.f) kr) (hL.below H.below) ko ko (hk) (by first | assumption | omega)) kr kr (Or.inl kr) ?_
          rintro _ ac w ⟨z17, rfl, hz17⟩ A H
          have H := H.learn (D.memF z17 (((D.walkN a.mem a.hart.satp.ppn a.addr (⟨a.kind, a.hart.priv, a.hart.sum, a.hart.mxr⟩ : D.Way)).mem).f)) hz17
          refine SX.takes [0] [(24, none), (25, none), (26, none), (27, none)] A H kr kd kr kr kr (Or.inl kr) (k := 1) fun ac A => ?_
          exact SX.useD hJ4 kr kr ⟨SX.bb H 3, SX.bb H 4, z17, A.sub _ kr, (H.pick [0, 1, 2, 3, 4] _ kc kr).ro_pickT [0, 1, 2, 3, 4] 5 _ kr⟩
         ·
          refine SX.act_op 29 0 [0] A H kr (Or.inl kr) fun ac w A H => ?_
          exact SX.useD hJ9 kr kr ⟨SX.bb H 3, SX.bb H 5, SX.bb H 4, A.sub _ kr, (H.pick [0, 1, 2, 3, 5, 4] _ kc kr).ro_pickT [0, 1, 2, 3] 4 _ kr⟩
       refine SX.joinD (fun ac w => ∃ B3 B4 : Nat, SX.Agrees 159 ac [(0, .pointer (some ⟨BA, 0, none⟩)), (2, .int .u64 0), (3, .pointer (some ⟨B1, 0, none⟩)), (8, .pointer (some ⟨B3, 0, none⟩)), (9, .pointer (some ⟨B4, 0, none⟩)), (90, (D.Mem.enc a.mem z4)), (96, .int .u64 (((a.hart.satp.ppn : Nat) : Int))), (100, .int .u64 (((a.addr : Nat) : Int))), (109, (D.Way.enc (⟨a.kind, a.hart.priv, a.hart.sum, a.hart.mxr⟩ : D.Way)))] ∧ SX.Own w0 w [(BA, .cells (D.Acc.cs a z3 z4) 257 (0, 0)), (B1, .cells #[.bool false, .int .i64 0, .int .u64 0] 58 (0, 0)), (B2, .cells (D.Entry.cs ((a.hart.tlb.find a.hart.satp.asid a.addr).e)) 270 (0, 0)), (B3, .cells #[.int .u64 0, (.slice none 0 0)] 30 (0, 0)), (B4, .cells (D.Leaf.cs (⟨0, 0, (⟨false, false, false, false, false, false, false, false, 0, 0, 0⟩ : D.Pte)⟩ : D.Leaf)) 263 (0, 0))] ⟨(D.tlbF z3 a.hart.tlb.sets) :: (D.memF z4 a.mem.f) :: (D.tlbF s1 a.hart.tlb.sets) :: (D.memF s2 a.mem.f) :: sl, fb, no⟩) 9 (SX.msk 34 813694975) ?_ (fun hJ13 => ?_)
       · rintro ac w ⟨B3, B4, A, H⟩
         refine SX.many 23 [30] kr kr (SX.allC_cons ?_ (SX.allC_cons ?_ SX.allC_nil))
         ·
          refine SX.callD_op 23 [0] A H (Walk_calls a.mem a.hart.satp.ppn a.addr (⟨a.kind, a.hart.priv, a.hart.sum, a.hart.mxr⟩ : D.Way) z4 w H.nos_lt (H.fact' 1 (D.memF z4 a.mem.f) kr) (hL.below H.below) ko ko (hk) (by first | assumption | omega)) kr kr (Or.inl kr) ?_
          rintro _ ac w ⟨z18, rfl, hz18⟩ A H
          have H := H.learn (D.memF z18 (((D.walkN a.mem a.hart.satp.ppn a.addr (⟨a.kind, a.hart.priv, a.hart.sum, a.hart.mxr⟩ : D.Way)).mem).f)) hz18
          refine SX.takes [0] [(24, none), (25, none), (26, none), (27, none)] A H kr kd kr kr kr (Or.inl kr) (k := 1) fun ac A => ?_
          exact SX.useD hJ5 kr kr ⟨SX.bb H 3, SX.bb H 4, z18, A.sub _ kr, (H.pick [0, 1, 2, 3, 4] _ kc kr).ro_pickT [0, 1, 2, 3, 4] 5 _ kr⟩
         ·
          refine SX.act_op 30 0 [0] A H kr (Or.inl kr) fun ac w A H => ?_
          exact SX.useD hJ9 kr kr ⟨SX.bb H 3, SX.bb H 4, SX.bb H 5, A.sub _ kr, (H.pick [0, 1, 2, 3, 4, 5] _ kc kr).ro_pickT [0, 1, 2, 3] 4 _ kr⟩
       refine SX.joinD (fun ac w => ∃ B3 : Nat, SX.Agrees 159 ac [(0, .pointer (some ⟨BA, 0, none⟩)), (2, .int .u64 0), (3, .pointer (some ⟨B1, 0, none⟩)), (10, .pointer (some ⟨B3, 0, none⟩)), (90, (D.Mem.enc a.mem z4)), (96, .int .u64 (((a.hart.satp.ppn : Nat) : Int))), (100, .int .u64 (((a.addr : Nat) : Int))), (109, (D.Way.enc (⟨a.kind, a.hart.priv, a.hart.sum, a.hart.mxr⟩ : D.Way)))] ∧ SX.Own w0 w [(BA, .cells (D.Acc.cs a z3 z4) 257 (0, 0)), (B1, .cells #[.bool false, .int .i64 0, .int .u64 0] 58 (0, 0)), (B2, .cells (D.Entry.cs ((a.hart.tlb.find a.hart.satp.asid a.addr).e)) 270 (0, 0)), (B3, .cells #[.bool false, .int .i64 0, .int .u64 0] 58 (0, 0))] ⟨(D.tlbF z3 a.hart.tlb.sets) :: (D.memF z4 a.mem.f) :: (D.tlbF s1 a.hart.tlb.sets) :: (D.memF s2 a.mem.f) :: sl, fb, no⟩) 10 (SX.msk 34 1082130431) ?_ (fun hJ14 => ?_)
       · rintro ac w ⟨B3, A, H⟩
         refine SX.many 23 [28, 29] kr kr (SX.allC_cons ?_ (SX.allC_cons ?_ (SX.allC_cons ?_ SX.allC_nil)))
         ·
          refine SX.callD_op 23 [0] A H (Walk_calls a.mem a.hart.satp.ppn a.addr (⟨a.kind, a.hart.priv, a.hart.sum, a.hart.mxr⟩ : D.Way) z4 w H.nos_lt (H.fact' 1 (D.memF z4 a.mem.f) kr) (hL.below H.below) ko ko (hk) (by first | assumption | omega)) kr kr (Or.inl kr) ?_
          rintro _ ac w ⟨z19, rfl, hz19⟩ A H
          have H := H.learn (D.memF z19 (((D.walkN a.mem a.hart.satp.ppn a.addr (⟨a.kind, a.hart.priv, a.hart.sum, a.hart.mxr⟩ : D.Way)).mem).f)) hz19
          refine SX.takes [0] [(24, none), (25, none), (26, none), (27, none)] A H kr kd kr kr kr (Or.inl kr) (k := 1) fun ac A => ?_
          exact SX.useD hJ6 kr kr ⟨SX.bb H 3, z19, A.sub _ kr, (H.pick [0, 1, 2, 3] _ kc kr).ro_pickT [0, 1, 2, 3, 4] 5 _ kr⟩
         ·
          refine SX.act_op 28 0 [0] A H kr (Or.inl kr) fun ac w A H => ?_
          exact SX.useD hJ12 kr kr ⟨SX.bb H 4, SX.bb H 3, A.sub _ kr, (H.pick [0, 1, 2, 4, 3] _ kc kr).ro_pickT [0, 1, 2, 3] 4 _ kr⟩
         ·
          refine SX.act_op 29 0 [0] A H kr (Or.inl kr) fun ac w A H => ?_
          exact SX.useD hJ10 kr kr ⟨SX.bb H 4, SX.bb H 3, A.sub _ kr, (H.pick [0, 1, 2, 4, 3] _ kc kr).ro_pickT [0, 1, 2, 3] 4 _ kr⟩
       refine SX.joinD (fun ac w => ∃ B3 B4 : Nat, SX.Agrees 159 ac [(0, .pointer (some ⟨BA, 0, none⟩)), (2, .int .u64 0), (3, .pointer (some ⟨B1, 0, none⟩)), (8, .pointer (some ⟨B3, 0, none⟩)), (10, .pointer (some ⟨B4, 0, none⟩)), (90, (D.Mem.enc a.mem z4)), (96, .int .u64 (((a.hart.satp.ppn : Nat) : Int))), (100, .int .u64 (((a.addr : Nat) : Int))), (104, (D.Hart.enc a.hart z3)), (108, .int .i64 (a.kind))] ∧ SX.Own w0 w [(BA, .cells (D.Acc.cs a z3 z4) 257 (0, 0)), (B1, .cells #[.bool false, .int .i64 0, .int .u64 0] 58 (0, 0)), (B2, .cells (D.Entry.cs ((a.hart.tlb.find a.hart.satp.asid a.addr).e)) 270 (0, 0)), (B3, .cells #[.int .u64 0, (.slice none 0 0)] 30 (0, 0)), (B4, .cells #[.bool false, .int .i64 0, .int .u64 0] 58 (0, 0))] ⟨(D.tlbF z3 a.hart.tlb.sets) :: (D.memF z4 a.mem.f) :: (D.tlbF s1 a.hart.tlb.sets) :: (D.memF s2 a.mem.f) :: sl, fb, no⟩) 10 (SX.msk 34 1346371583) ?_ (fun hJ15 => ?_)
       · rintro ac w ⟨B3, B4, A, H⟩
         refine SX.many 22 [29] kr kr (SX.allC_cons ?_ (SX.allC_cons ?_ SX.allC_nil))
         ·
          refine SX.callGD_op 22 [0] A H (Way_calls a.hart a.kind z3 w H.nos_lt (H.fact' 0 (D.tlbF z3 a.hart.tlb.sets) kr)) kr kr (Or.inl kr) fun ac w A H => ?_
          exact SX.useD hJ12 kr kr ⟨SX.bb H 3, SX.bb H 4, A.sub _ kr, (H.pick [0, 1, 2, 3, 4] _ kc kr).ro_pickT [0, 1, 2, 3] 4 _ kr⟩
         ·
          refine SX.act_op 29 0 [0] A H kr (Or.inl kr) fun ac w A H => ?_
          exact SX.useD hJ11 kr kr ⟨SX.bb H 3, SX.bb H 5, SX.bb H 4, A.sub _ kr, (H.pick [0, 1, 2, 3, 5, 4] _ kc kr).ro_pickT [0, 1, 2, 3] 4 _ kr⟩
       refine SX.joinD (fun ac w => ∃ B3 B4 : Nat, SX.Agrees 159 ac [(0, .pointer (some ⟨BA, 0, none⟩)), (2, .int .u64 0), (3, .pointer (some ⟨B1, 0, none⟩)), (9, .pointer (some ⟨B3, 0, none⟩)), (10, .pointer (some ⟨B4, 0, none⟩)), (90, (D.Mem.enc a.mem z4)), (96, .int .u64 (((a.hart.satp.ppn : Nat) : Int))), (100, .int .u64 (((a.addr : Nat) : Int))), (104, (D.Hart.enc a.hart z3)), (108, .int .i64 (a.kind))] ∧ SX.Own w0 w [(BA, .cells (D.Acc.cs a z3 z4) 257 (0, 0)), (B1, .cells #[.bool false, .int .i64 0, .int .u64 0] 58 (0, 0)), (B2, .cells (D.Entry.cs ((a.hart.tlb.find a.hart.satp.asid a.addr).e)) 270 (0, 0)), (B3, .cells (D.Leaf.cs (⟨0, 0, (⟨false, false, false, false, false, false, false, false, 0, 0, 0⟩ : D.Pte)⟩ : D.Leaf)) 263 (0, 0)), (B4, .cells #[.bool false, .int .i64 0, .int .u64 0] 58 (0, 0))] ⟨(D.tlbF z3 a.hart.tlb.sets) :: (D.memF z4 a.mem.f) :: (D.tlbF s1 a.hart.tlb.sets) :: (D.memF s2 a.mem.f) :: sl, fb, no⟩) 10 (SX.msk 34 1614807039) ?_ (fun hJ16 => ?_)
       · rintro ac w ⟨B3, B4, A, H⟩
         refine SX.many 22 [28] kr kr (SX.allC_cons ?_ (SX.allC_cons ?_ SX.allC_nil))
         ·
          refine SX.callGD_op 22 [0] A H (Way_calls a.hart a.kind z3 w H.nos_lt (H.fact' 0 (D.tlbF z3 a.hart.tlb.sets) kr)) kr kr (Or.inl kr) fun ac w A H => ?_
          exact SX.useD hJ10 kr kr ⟨SX.bb H 3, SX.bb H 4, A.sub _ kr, (H.pick [0, 1, 2, 3, 4] _ kc kr).ro_pickT [0, 1, 2, 3] 4 _ kr⟩
         ·
          refine SX.act_op 28 0 [0] A H kr (Or.inl kr) fun ac w A H => ?_
          exact SX.useD hJ11 kr kr ⟨SX.bb H 5, SX.bb H 3, SX.bb H 4, A.sub _ kr, (H.pick [0, 1, 2, 5, 3, 4] _ kc kr).ro_pickT [0, 1, 2, 3] 4 _ kr⟩
       refine SX.joinD (fun ac w => ∃ B3 : Nat, SX.Agrees 159 ac [(0, .pointer (some ⟨BA, 0, none⟩)), (2, .int .u64 0), (3, .pointer (some ⟨B1, 0, none⟩)), (9, .pointer (some ⟨B3, 0, none⟩)), (90, (D.Mem.enc a.mem z4)), (96, .int .u64 (((a.hart.satp.ppn : Nat) : Int))), (100, .int .u64 (((a.addr : Nat) : Int))), (109, (D.Way.enc (⟨a.kind, a.hart.priv, a.hart.sum, a.hart.mxr⟩ : D.Way)))] ∧ SX.Own w0 w [(BA, .cells (D.Acc.cs a z3 z4) 257 (0, 0)), (B1, .cells #[.bool false, .int .i64 0, .int .u64 0] 58 (0, 0)), (B2, .cells (D.Entry.cs ((a.hart.tlb.find a.hart.satp.asid a.addr).e)) 270 (0, 0)), (B3, .cells (D.Leaf.cs (⟨0, 0, (⟨false, false, false, false, false, false, false, false, 0, 0, 0⟩ : D.Pte)⟩ : D.Leaf)) 263 (0, 0))] ⟨(D.tlbF z3 a.hart.tlb.sets) :: (D.memF z4 a.mem.f) :: (D.tlbF s1 a.hart.tlb.sets) :: (D.memF s2 a.mem.f) :: sl, fb, no⟩) 10 (SX.msk 34 545259519) ?_ (fun hJ17 => ?_)
       · rintro ac w ⟨B3, A, H⟩
         refine SX.many 23 [28, 30] kr kr (SX.allC_cons ?_ (SX.allC_cons ?_ (SX.allC_cons ?_ SX.allC_nil)))
         ·
          refine SX.callD_op 23 [0] A H (Walk_calls a.mem a.hart.satp.ppn a.addr (⟨a.kind, a.hart.priv, a.hart.sum, a.hart.mxr⟩ : D.Way) z4 w H.nos_lt (H.fact' 1 (D.memF z4 a.mem.f) kr) (hL.below H.below) ko ko (hk) (by first | assumption | omega)) kr kr (Or.inl kr) ?_
          rintro _ ac w ⟨z20, rfl, hz20⟩ A H
          have H := H.learn (D.memF z20 (((D.walkN a.mem a.hart.satp.ppn a.addr (⟨a.kind, a.hart.priv, a.hart.sum, a.hart.mxr⟩ : D.Way)).mem).f)) hz20
          refine SX.takes [0] [(24, none), (25, none), (26, none), (27, none)] A H kr kd kr kr kr (Or.inl kr) (k := 1) fun ac A => ?_
          exact SX.useD hJ7 kr kr ⟨SX.bb H 3, z20, A.sub _ kr, (H.pick [0, 1, 2, 3] _ kc kr).ro_pickT [0, 1, 2, 3, 4] 5 _ kr⟩
         ·
          refine SX.act_op 28 0 [0] A H kr (Or.inl kr) fun ac w A H => ?_
          exact SX.useD hJ13 kr kr ⟨SX.bb H 4, SX.bb H 3, A.sub _ kr, (H.pick [0, 1, 2, 4, 3] _ kc kr).ro_pickT [0, 1, 2, 3] 4 _ kr⟩
         ·
          refine SX.act_op 30 0 [0] A H kr (Or.inl kr) fun ac w A H => ?_
          exact SX.useD hJ10 kr kr ⟨SX.bb H 3, SX.bb H 4, A.sub _ kr, (H.pick [0, 1, 2, 3, 4] _ kc kr).ro_pickT [0, 1, 2, 3] 4 _ kr⟩
       refine SX.joinD (fun ac w => ∃ B3 B4 : Nat, SX.Agrees 159 ac [(0, .pointer (some ⟨BA, 0, none⟩)), (2, .int .u64 0), (3, .pointer (some ⟨B1, 0, none⟩)), (8, .pointer (some ⟨B3, 0, none⟩)), (9, .pointer (some ⟨B4, 0, none⟩)), (90, (D.Mem.enc a.mem z4)), (96, .int .u64 (((a.hart.satp.ppn : Nat) : Int))), (100, .int .u64 (((a.addr : Nat) : Int))), (104, (D.Hart.enc a.hart z3)), (108, .int .i64 (a.kind))] ∧ SX.Own w0 w [(BA, .cells (D.Acc.cs a z3 z4) 257 (0, 0)), (B1, .cells #[.bool false, .int .i64 0, .int .u64 0] 58 (0, 0)), (B2, .cells (D.Entry.cs ((a.hart.tlb.find a.hart.satp.asid a.addr).e)) 270 (0, 0)), (B3, .cells #[.int .u64 0, (.slice none 0 0)] 30 (0, 0)), (B4, .cells (D.Leaf.cs (⟨0, 0, (⟨false, false, false, false, false, false, false, false, 0, 0, 0⟩ : D.Pte)⟩ : D.Leaf)) 263 (0, 0))] ⟨(D.tlbF z3 a.hart.tlb.sets) :: (D.memF z4 a.mem.f) :: (D.tlbF s1 a.hart.tlb.sets) :: (D.memF s2 a.mem.f) :: sl, fb, no⟩) 10 (SX.msk 34 809500671) ?_ (fun hJ18 => ?_)
       · rintro ac w ⟨B3, B4, A, H⟩
         refine SX.many 22 [30] kr kr (SX.allC_cons ?_ (SX.allC_cons ?_ SX.allC_nil))
         ·
          refine SX.callGD_op 22 [0] A H (Way_calls a.hart a.kind z3 w H.nos_lt (H.fact' 0 (D.tlbF z3 a.hart.tlb.sets) kr)) kr kr (Or.inl kr) fun ac w A H => ?_
          exact SX.useD hJ13 kr kr ⟨SX.bb H 3, SX.bb H 4, A.sub _ kr, (H.pick [0, 1, 2, 3, 4] _ kc kr).ro_pickT [0, 1, 2, 3] 4 _ kr⟩
         ·
          refine SX.act_op 30 0 [0] A H kr (Or.inl kr) fun ac w A H => ?_
          exact SX.useD hJ11 kr kr ⟨SX.bb H 3, SX.bb H 4, SX.bb H 5, A.sub _ kr, (H.pick [0, 1, 2, 3, 4, 5] _ kc kr).ro_pickT [0, 1, 2, 3] 4 _ kr⟩
       refine SX.joinD (fun ac w => ∃ B3 : Nat, SX.Agrees 159 ac [(0, .pointer (some ⟨BA, 0, none⟩)), (2, .int .u64 0), (3, .pointer (some ⟨B1, 0, none⟩)), (8, .pointer (some ⟨B3, 0, none⟩)), (90, (D.Mem.enc a.mem z4)), (96, .int .u64 (((a.hart.satp.ppn : Nat) : Int))), (100, .int .u64 (((a.addr : Nat) : Int))), (109, (D.Way.enc (⟨a.kind, a.hart.priv, a.hart.sum, a.hart.mxr⟩ : D.Way)))] ∧ SX.Own w0 w [(BA, .cells (D.Acc.cs a z3 z4) 257 (0, 0)), (B1, .cells #[.bool false, .int .i64 0, .int .u64 0] 58 (0, 0)), (B2, .cells (D.Entry.cs ((a.hart.tlb.find a.hart.satp.asid a.addr).e)) 270 (0, 0)), (B3, .cells #[.int .u64 0, (.slice none 0 0)] 30 (0, 0))] ⟨(D.tlbF z3 a.hart.tlb.sets) :: (D.memF z4 a.mem.f) :: (D.tlbF s1 a.hart.tlb.sets) :: (D.memF s2 a.mem.f) :: sl, fb, no⟩) 10 (SX.msk 34 276824063) ?_ (fun hJ19 => ?_)
       · rintro ac w ⟨B3, A, H⟩
         refine SX.many 23 [29, 30] kr kr (SX.allC_cons ?_ (SX.allC_cons ?_ (SX.allC_cons ?_ SX.allC_nil)))
         ·
          refine SX.callD_op 23 [0] A H (Walk_calls a.mem a.hart.satp.ppn a.addr (⟨a.kind, a.hart.priv, a.hart.sum, a.hart.mxr⟩ : D.Way) z4 w H.nos_lt (H.fact' 1 (D.memF z4 a.mem.f) kr) (hL.below H.below) ko ko (hk) (by first | assumption | omega)) kr kr (Or.inl kr) ?_
          rintro _ ac w ⟨z21, rfl, hz21⟩ A H
          have H := H.learn (D.memF z21 (((D.walkN a.mem a.hart.satp.ppn a.addr (⟨a.kind, a.hart.priv, a.hart.sum, a.hart.mxr⟩ : D.Way)).mem).f)) hz21
          refine SX.takes [0] [(24, none), (25, none), (26, none), (27, none)] A H kr kd kr kr kr (Or.inl kr) (k := 1) fun ac A => ?_
          exact SX.useD hJ8 kr kr ⟨SX.bb H 3, z21, A.sub _ kr, (H.pick [0, 1, 2, 3] _ kc kr).ro_pickT [0, 1, 2, 3, 4] 5 _ kr⟩
         ·
          refine SX.act_op 29 0 [0] A H kr (Or.inl kr) fun ac w A H => ?_
          exact SX.useD hJ13 kr kr ⟨SX.bb H 3, SX.bb H 4, A.sub _ kr, (H.pick [0, 1, 2, 3, 4] _ kc kr).ro_pickT [0, 1, 2, 3] 4 _ kr⟩
         ·
          refine SX.act_op 30 0 [0] A H kr (Or.inl kr) fun ac w A H => ?_
          exact SX.useD hJ12 kr kr ⟨SX.bb H 3, SX.bb H 4, A.sub _ kr, (H.pick [0, 1, 2, 3, 4] _ kc kr).ro_pickT [0, 1, 2, 3] 4 _ kr⟩
       refine SX.many 22 [28, 29, 30] kr kr (SX.allC_cons ?_ (SX.allC_cons ?_ (SX.allC_cons ?_ (SX.allC_cons ?_ SX.allC_nil))))
       ·
        refine SX.callGD_op 22 [0] A H (Way_calls a.hart a.kind z3 w H.nos_lt (H.fact' 0 (D.tlbF z3 a.hart.tlb.sets) kr)) kr kr (Or.inl kr) fun ac w A H => ?_
        refine SX.many 23 [28, 29, 30] kr kr (SX.allC_cons ?_ (SX.allC_cons ?_ (SX.allC_cons ?_ (SX.allC_cons ?_ SX.allC_nil))))
        ·
         refine SX.callD_op 23 [0] A H (Walk_calls a.mem a.hart.satp.ppn a.addr (⟨a.kind, a.hart.priv, a.hart.sum, a.hart.mxr⟩ : D.Way) z4 w H.nos_lt (H.fact' 1 (D.memF z4 a.mem.f) kr) (hL.below H.below) ko ko (hk) (by first | assumption | omega)) kr kr (Or.inl kr) ?_
         rintro _ ac w ⟨z22, rfl, hz22⟩ A H
         have H := H.learn (D.memF z22 (((D.walkN a.mem a.hart.satp.ppn a.addr (⟨a.kind, a.hart.priv, a.hart.sum, a.hart.mxr⟩ : D.Way)).mem).f)) hz22
         refine SX.takes [0] [(24, none), (25, none), (26, none), (27, none)] A H kr kd kr kr kr (Or.inl kr) (k := 1) fun ac A => ?_
         refine SX.many 28 [29, 30] kr kr (SX.allC_cons ?_ (SX.allC_cons ?_ (SX.allC_cons ?_ SX.allC_nil)))
         ·
          refine SX.act_op 28 0 [0] A H kr (Or.inl kr) (k := 1) fun ac w A H => ?_
          exact SX.useD hJ8 kr kr ⟨SX.bb H 3, z22, A.sub _ kr, (H.pick [0, 1, 2, 3] _ kc kr).ro_pickT [0, 1, 2, 3, 4] 5 _ kr⟩
         ·
          refine SX.act_op 29 0 [0] A H kr (Or.inl kr) (k := 1) fun ac w A H => ?_
          exact SX.useD hJ7 kr kr ⟨SX.bb H 3, z22, A.sub _ kr, (H.pick [0, 1, 2, 3] _ kc kr).ro_pickT [0, 1, 2, 3, 4] 5 _ kr⟩
         ·
          refine SX.act_op 30 0 [0] A H kr (Or.inl kr) (k := 1) fun ac w A H => ?_
          exact SX.useD hJ6 kr kr ⟨SX.bb H 3, z22, A.sub _ kr, (H.pick [0, 1, 2, 3] _ kc kr).ro_pickT [0, 1, 2, 3, 4] 5 _ kr⟩
        ·
         refine SX.act_op 28 0 [0] A H kr (Or.inl kr) fun ac w A H => ?_
         exact SX.useD hJ19 kr kr ⟨SX.bb H 3, A.sub _ kr, (H.pick [0, 1, 2, 3] _ kc kr).ro_pickT [0, 1, 2, 3] 4 _ kr⟩
        ·
         refine SX.act_op 29 0 [0] A H kr (Or.inl kr) fun ac w A H => ?_
         exact SX.useD hJ17 kr kr ⟨SX.bb H 3, A.sub _ kr, (H.pick [0, 1, 2, 3] _ kc kr).ro_pickT [0, 1, 2, 3] 4 _ kr⟩
        ·
         refine SX.act_op 30 0 [0] A H kr (Or.inl kr) fun ac w A H => ?_
         exact SX.useD hJ14 kr kr ⟨SX.bb H 3, A.sub _ kr, (H.pick [0, 1, 2, 3] _ kc kr).ro_pickT [0, 1, 2, 3] 4 _ kr⟩
       ·
        refine SX.act_op 28 0 [0] A H kr (Or.inl kr) fun ac w A H => ?_
        refine SX.many 22 [29, 30] kr kr (SX.allC_cons ?_ (SX.allC_cons ?_ (SX.allC_cons ?_ SX.allC_nil)))
        ·
         refine SX.callGD_op 22 [0] A H (Way_calls a.hart a.kind z3 w H.nos_lt (H.fact' 0 (D.tlbF z3 a.hart.tlb.sets) kr)) kr kr (Or.inl kr) fun ac w A H => ?_
         exact SX.useD hJ19 kr kr ⟨SX.bb H 3, A.sub _ kr, (H.pick [0, 1, 2, 3] _ kc kr).ro_pickT [0, 1, 2, 3] 4 _ kr⟩
        ·
         refine SX.act_op 29 0 [0] A H kr (Or.inl kr) fun ac w A H => ?_
         exact SX.useD hJ18 kr kr ⟨SX.bb H 3, SX.bb H 4, A.sub _ kr, (H.pick [0, 1, 2, 3, 4] _ kc kr).ro_pickT [0, 1, 2, 3] 4 _ kr⟩
        ·
         refine SX.act_op 30 0 [0] A H kr (Or.inl kr) fun ac w A H => ?_
         exact SX.useD hJ15 kr kr ⟨SX.bb H 3, SX.bb H 4, A.sub _ kr, (H.pick [0, 1, 2, 3, 4] _ kc kr).ro_pickT [0, 1, 2, 3] 4 _ kr⟩
       ·
        refine SX.act_op 29 0 [0] A H kr (Or.inl kr) fun ac w A H => ?_
        refine SX.many 22 [28, 30] kr kr (SX.allC_cons ?_ (SX.allC_cons ?_ (SX.allC_cons ?_ SX.allC_nil)))
        ·
         refine SX.callGD_op 22 [0] A H (Way_calls a.hart a.kind z3 w H.nos_lt (H.fact' 0 (D.tlbF z3 a.hart.tlb.sets) kr)) kr kr (Or.inl kr) fun ac w A H => ?_
         exact SX.useD hJ17 kr kr ⟨SX.bb H 3, A.sub _ kr, (H.pick [0, 1, 2, 3] _ kc kr).ro_pickT [0, 1, 2, 3] 4 _ kr⟩
        ·
         refine SX.act_op 28 0 [0] A H kr (Or.inl kr) fun ac w A H => ?_
         exact SX.useD hJ18 kr kr ⟨SX.bb H 4, SX.bb H 3, A.sub _ kr, (H.pick [0, 1, 2, 4, 3] _ kc kr).ro_pickT [0, 1, 2, 3] 4 _ kr⟩
        ·
         refine SX.act_op 30 0 [0] A H kr (Or.inl kr) fun ac w A H => ?_
         exact SX.useD hJ16 kr kr ⟨SX.bb H 3, SX.bb H 4, A.sub _ kr, (H.pick [0, 1, 2, 3, 4] _ kc kr).ro_pickT [0, 1, 2, 3] 4 _ kr⟩
       ·
        refine SX.act_op 30 0 [0] A H kr (Or.inl kr) fun ac w A H => ?_
        refine SX.many 22 [28, 29] kr kr (SX.allC_cons ?_ (SX.allC_cons ?_ (SX.allC_cons ?_ SX.allC_nil)))
        ·
         refine SX.callGD_op 22 [0] A H (Way_calls a.hart a.kind z3 w H.nos_lt (H.fact' 0 (D.tlbF z3 a.hart.tlb.sets) kr)) kr kr (Or.inl kr) fun ac w A H => ?_
         exact SX.useD hJ14 kr kr ⟨SX.bb H 3, A.sub _ kr, (H.pick [0, 1, 2, 3] _ kc kr).ro_pickT [0, 1, 2, 3] 4 _ kr⟩
        ·
         refine SX.act_op 28 0 [0] A H kr (Or.inl kr) fun ac w A H => ?_
         exact SX.useD hJ15 kr kr ⟨SX.bb H 4, SX.bb H 3, A.sub _ kr, (H.pick [0, 1, 2, 4, 3] _ kc kr).ro_pickT [0, 1, 2, 3] 4 _ kr⟩
        ·
         refine SX.act_op 29 0 [0] A H kr (Or.inl kr) fun ac w A H => ?_
         exact SX.useD hJ16 kr kr ⟨SX.bb H 4, SX.bb H 3, A.sub _ kr, (H.pick [0, 1, 2, 4, 3] _ kc kr).ro_pickT [0, 1, 2, 3] 4 _ kr⟩
     ·
      have A := A.rb 62 h3
      refine Xb [0, 0, 0, 0] A H fun ac w A H => XD (XT (Xf A (XK (XT (XS (SX.drawn 34 [0] kr A H fun w H => SX.takes [0] [(0, none), (1, none), (2, none), (3, some 0), (4, none), (5, none), (6, none), (7, none), (8, none), (9, some 0), (10, none), (11, none), (12, none), (13, some 0), (14, none), (15, none), (16, none), (17, some 0), (18, none), (19, none), (20, none), (21, some 0)] A H kr kd kr kr kr (Or.inl kr) fun ac A => ?_))))))
      let B1 := SX.bb H 1
      let B2 := SX.bb H 2
      refine SX.joinD (fun ac w => ∃ B3 B4 B5 : Nat, ∃ z23 : SX.Sl, SX.Agrees 159 ac [(0, .pointer (some ⟨BA, 0, none⟩)), (2, .int .u64 0), (3, .pointer (some ⟨B1, 0, none⟩)), (8, .pointer (some ⟨B3, 0, none⟩)), (9, .pointer (some ⟨B4, 0, none⟩)), (10, .pointer (some ⟨B5, 0, none⟩)), (111, (D.Mem.enc ((D.walkN a.mem a.hart.satp.ppn a.addr (⟨a.kind, a.hart.priv, a.hart.sum, a.hart.mxr⟩ : D.Way)).mem) z23)), (112, (D.Leaf.enc ((D.walkN a.mem a.hart.satp.ppn a.addr (⟨a.kind, a.hart.priv, a.hart.sum, a.hart.mxr⟩ : D.Way)).leaf))), (113, (D.Fault.enc ((D.walkN a.mem a.hart.satp.ppn a.addr (⟨a.kind, a.hart.priv, a.hart.sum, a.hart.mxr⟩ : D.Way)).fault)))] ∧ SX.Own w0 w [(BA, .cells (D.Acc.cs a s1 s2) 257 (0, 0)), (B1, .cells #[.bool false, .int .i64 0, .int .u64 0] 58 (0, 0)), (B2, .cells (D.Entry.cs ((a.hart.tlb.find a.hart.satp.asid a.addr).e)) 270 (0, 0)), (B3, .cells #[.int .u64 0, (.slice none 0 0)] 30 (0, 0)), (B4, .cells (D.Leaf.cs (⟨0, 0, (⟨false, false, false, false, false, false, false, false, 0, 0, 0⟩ : D.Pte)⟩ : D.Leaf)) 263 (0, 0)), (B5, .cells #[.bool false, .int .i64 0, .int .u64 0] 58 (0, 0))] ⟨(D.memF z23 (((D.walkN a.mem a.hart.satp.ppn a.addr (⟨a.kind, a.hart.priv, a.hart.sum, a.hart.mxr⟩ : D.Way)).mem).f)) :: (D.tlbF s1 a.hart.tlb.sets) :: (D.memF s2 a.mem.f) :: sl, fb, no⟩) 3 (SX.msk 34 2147483647) ?_ (fun hJ20 => ?_)
      · rintro ac w ⟨B3, B4, B5, z23, A, H⟩
        refine SX.act 31 3 [0] A H kr kr kr (Or.inl kr) (k := 1) fun ac w A H => SX.act 32 4 [0] A H kr kr kr (Or.inl kr) (k := 1) fun ac w A H => SX.act 33 5 [0] A H kr kr kr (Or.inl kr) (k := 1) fun ac w A H => ?_
        refine SX.doneD kr ?_ _
        refine XT (XS (XS (XR (Xb [0, 5] A H fun ac w A H => XD (XT ?_)))))
        refine Xs (((D.walkN a.mem a.hart.satp.ppn a.addr (⟨a.kind, a.hart.priv, a.hart.sum, a.hart.mxr⟩ : D.Way)).fault).is_) (fun h6 => ?_) fun h6 => ?_
        ·
         have A := A.rb 115 h6
         refine Xt A (XS (SX.drawn 3 [5] kr A H fun w H => SX.takes [5] [(0, some 0), (1, none)] A H kr kd kr kr kr (Or.inl kr) fun ac A => SX.act 2 1 [5] A H kr kr kr (Or.inl kr) fun ac w A H => ?_))
         refine SX.doneD kr ?_ _
         refine XT (XW (XU ?_))
         have hf : D.Acc.leads a = ⟨a, 0, a.walk.fault⟩ := by rw [D.Acc.leads, if_neg (by simpa using h1), if_neg (by rw [h2]; decide), if_neg (fun hh => absurd (hh.1.symm.trans (show a.hit.ok = false from h3)) kc), if_pos (show a.walk.fault.is_ = true from h6)]
         rw [hf]
         have hf0 := H.fact' 1 (D.tlbF s1 a.hart.tlb.sets) kr
         have hf1 := H.fact' 2 (D.memF s2 a.mem.f) kr
         have H2 := H.ro_top 3 sl kr
         have H2 := H2.learn (D.memF s2 a.mem.f) hf1
         have H2 := H2.learn (D.tlbF s1 a.hart.tlb.sets) hf0
         refine SX.retW [0, 1] ((.tuple #[.int .u64 0, (D.Fault.enc ((D.walkN a.mem a.hart.satp.ppn a.addr (⟨a.kind, a.hart.priv, a.hart.sum, a.hart.mxr⟩ : D.Way)).fault))])) A H kr kr kr ⟨_, rfl, s1, s2, ?_, H2.pick [0] [(BA, .cells (D.Acc.cs a s1 s2) 257 (0, 0))] kc kr⟩
         rfl
        ·
         have A := A.rb 115 h6
         refine Xf A (XK (XT (XS (XR (Xb [0, 3, 0, 0, 0] A H fun ac w A H => XD (XT (XS (SX.drawn 28 [0, 4] kr A H fun w H => SX.takes [0, 4] [(0, none), (1, none), (2, none), (3, none), (4, none), (5, none), (6, some 0), (7, some 1), (8, none), (9, none), (10, none), (11, some 0), (12, none), (13, none), (14, none), (15, none), (16, none), (17, some 0), (19, none), (20, none), (21, none), (22, none), (23, some 0)] A H kr kd kr kr kr (Or.inl kr) fun ac A => SX.callGD 18 [0, 4] A H (eOf_calls ((D.walkN a.mem a.hart.satp.ppn a.addr (⟨a.kind, a.hart.priv, a.hart.sum, a.hart.mxr⟩ : D.Way)).leaf) a.addr a.hart.satp.asid w (hL.below H.below) ko (D.walkN_lv _ _ _ _)) kr kr kr kr (Or.inl kr) fun ac w A H => SX.callD 24 [0, 4] A H (tPut_calls a.hart.tlb (D.Entry.of ((D.walkN a.mem a.hart.satp.ppn a.addr (⟨a.kind, a.hart.priv, a.hart.sum, a.hart.mxr⟩ : D.Way)).leaf) a.addr a.hart.satp.asid) a.hart.victim s1 w H.nos_lt (H.fact' 1 (D.tlbF s1 a.hart.tlb.sets) kr) (hL.below H.below) (by assumption) (rfl) (D.walkN_lv _ _ _ _) (Nat.lt_trans (numberN_lt _) kc) (Nat.lt_trans (D.walkN_ppn _ _ _ _) kc) (ha)) kr kr kr kr (Or.inl kr) ?_))))))))
         rintro _ ac w ⟨z31, rfl, hz31⟩ A H
         have H := H.learn (D.tlbF z31 ((a.hart.tlb.put (D.Entry.of ((D.walkN a.mem a.hart.satp.ppn a.addr (⟨a.kind, a.hart.priv, a.hart.sum, a.hart.mxr⟩ : D.Way)).leaf) a.addr a.hart.satp.asid) a.hart.victim).sets)) hz31
         refine SX.takes [0, 4] [(25, none), (26, none), (27, none)] A H kr kd kr kr kr (Or.inl kr) (k := 1) fun ac A => SX.act 28 0 [0, 4] A H kr kr kr (Or.inr kr) (k := 1) fun ac w A H => SX.takes [0, 4] [(29, none), (30, none), (31, none)] A H kr kd kr kr kr (Or.inr kr) (k := 1) fun ac A => SX.act 32 0 [0, 4] A H kr kr kr (Or.inr kr) (k := 1) fun ac w A H => ?_
         refine SX.doneD kr ?_ _
         refine XT (XS (SX.drawn 9 [0, 4] kr A H fun w H => SX.takes [0, 4] [(0, some 1), (1, none), (2, none), (3, none), (4, some 0), (6, none)] A H kr kd kr kr kr (Or.inl kr) fun ac A => SX.callGD 5 [0, 4] A H (lPhys_calls ((D.walkN a.mem a.hart.satp.ppn a.addr (⟨a.kind, a.hart.priv, a.hart.sum, a.hart.mxr⟩ : D.Way)).leaf) a.addr w (hL.below H.below) ko (D.walkN_ppn _ _ _ _) (D.walkN_lv _ _ _ _)) kr kr kr kr (Or.inl kr) fun ac w A H => SX.takes [0, 4] [(7, none)] A H kr kd kr kr kr (Or.inl kr) fun ac A => SX.act 8 1 [0, 4] A H kr kr kr (Or.inl kr) fun ac w A H => ?_))
         refine SX.doneD kr ?_ _
         refine XT (XW ?_)
         have hf : D.Acc.leads a = ⟨⟨a.hart.withT (a.hart.tlb.put (D.Entry.of a.walk.leaf a.addr a.hart.satp.asid) a.hart.victim) (-1), a.walk.mem, a.kind, a.addr⟩, a.walk.leaf.pte.ppn * 4096 + offsetN a.addr a.walk.leaf.level, D.Fault.zero⟩ := by rw [D.Acc.leads, if_neg (by simpa using h1), if_neg (by rw [h2]; decide), if_neg (fun hh => absurd (hh.1.symm.trans (show a.hit.ok = false from h3)) kc), if_neg (fun hh => absurd (hh.symm.trans (show a.walk.fault.is_ = false from h6)) kc)]
         rw [hf]
         have hf0 := H.fact' 0 (D.tlbF z31 ((a.hart.tlb.put (D.Entry.of ((D.walkN a.mem a.hart.satp.ppn a.addr (⟨a.kind, a.hart.priv, a.hart.sum, a.hart.mxr⟩ : D.Way)).leaf) a.addr a.hart.satp.asid) a.hart.victim).sets)) kr
         have hf1 := H.fact' 1 (D.memF z23 (((D.walkN a.mem a.hart.satp.ppn a.addr (⟨a.kind, a.hart.priv, a.hart.sum, a.hart.mxr⟩ : D.Way)).mem).f)) kr
         have H2 := H.ro_top 4 sl kr
         have H2 := H2.learn (D.memF z23 (((D.walkN a.mem a.hart.satp.ppn a.addr (⟨a.kind, a.hart.priv, a.hart.sum, a.hart.mxr⟩ : D.Way)).mem).f)) hf1
         have H2 := H2.learn (D.tlbF z31 ((a.hart.tlb.put (D.Entry.of ((D.walkN a.mem a.hart.satp.ppn a.addr (⟨a.kind, a.hart.priv, a.hart.sum, a.hart.mxr⟩ : D.Way)).leaf) a.addr a.hart.satp.asid) a.hart.victim).sets)) hf0
         refine SX.retW [0, 1] ((.tuple #[.int .u64 (((((D.walkN a.mem a.hart.satp.ppn a.addr (⟨a.kind, a.hart.priv, a.hart.sum, a.hart.mxr⟩ : D.Way)).leaf).pte.ppn * 4096 + offsetN a.addr ((D.walkN a.mem a.hart.satp.ppn a.addr (⟨a.kind, a.hart.priv, a.hart.sum, a.hart.mxr⟩ : D.Way)).leaf).level : Nat) : Int)), (D.Fault.enc (⟨false, 0, 0⟩ : D.Fault))])) A H kr kr kr ⟨_, rfl, z31, z23, ?_, H2.pick [0] [(BA, .cells (D.Acc.cs (⟨(⟨(a.hart.tlb.put (D.Entry.of ((D.walkN a.mem a.hart.satp.ppn a.addr (⟨a.kind, a.hart.priv, a.hart.sum, a.hart.mxr⟩ : D.Way)).leaf) a.addr a.hart.satp.asid) a.hart.victim), a.hart.satp, a.hart.priv, a.hart.sum, a.hart.mxr, (-1)⟩ : D.Hart), ((D.walkN a.mem a.hart.satp.ppn a.addr (⟨a.kind, a.hart.priv, a.hart.sum, a.hart.mxr⟩ : D.Way)).mem), a.kind, a.addr⟩ : D.Acc) z31 z23) 257 (0, 0))] kc kr⟩
         rfl
      refine SX.joinD (fun ac w => ∃ B3 B4 : Nat, ∃ z24 : SX.Sl, SX.Agrees 159 ac [(0, .pointer (some ⟨BA, 0, none⟩)), (2, .int .u64 0), (3, .pointer (some ⟨B1, 0, none⟩)), (9, .pointer (some ⟨B3, 0, none⟩)), (10, .pointer (some ⟨B4, 0, none⟩)), (111, (D.Mem.enc ((D.walkN a.mem a.hart.satp.ppn a.addr (⟨a.kind, a.hart.priv, a.hart.sum, a.hart.mxr⟩ : D.Way)).mem) z24)), (112, (D.Leaf.enc ((D.walkN a.mem a.hart.satp.ppn a.addr (⟨a.kind, a.hart.priv, a.hart.sum, a.hart.mxr⟩ : D.Way)).leaf))), (113, (D.Fault.enc ((D.walkN a.mem a.hart.satp.ppn a.addr (⟨a.kind, a.hart.priv, a.hart.sum, a.hart.mxr⟩ : D.Way)).fault)))] ∧ SX.Own w0 w [(BA, .cells (D.Acc.cs a s1 s2) 257 (0, 0)), (B1, .cells #[.bool false, .int .i64 0, .int .u64 0] 58 (0, 0)), (B2, .cells (D.Entry.cs ((a.hart.tlb.find a.hart.satp.asid a.addr).e)) 270 (0, 0)), (B3, .cells (D.Leaf.cs (⟨0, 0, (⟨false, false, false, false, false, false, false, false, 0, 0, 0⟩ : D.Pte)⟩ : D.Leaf)) 263 (0, 0)), (B4, .cells #[.bool false, .int .i64 0, .int .u64 0] 58 (0, 0))] ⟨(D.memF z24 (((D.walkN a.mem a.hart.satp.ppn a.addr (⟨a.kind, a.hart.priv, a.hart.sum, a.hart.mxr⟩ : D.Way)).mem).f)) :: (D.tlbF s1 a.hart.tlb.sets) :: (D.memF s2 a.mem.f) :: sl, fb, no⟩) 4 (SX.msk 34 1879048191) ?_ (fun hJ21 => ?_)
      · rintro ac w ⟨B3, B4, z24, A, H⟩
        refine SX.act 28 0 [0] A H kr kr kr (Or.inl kr) (k := 1) fun ac w A H => ?_
        exact SX.useD hJ20 kr kr ⟨SX.bb H 5, SX.bb H 3, SX.bb H 4, z24, A.sub _ kr, (H.pick [0, 1, 2, 5, 3, 4] _ kc kr).ro_pickT [0, 1, 2] 3 _ kr⟩
      refine SX.joinD (fun ac w => ∃ B3 B4 : Nat, ∃ z25 : SX.Sl, SX.Agrees 159 ac [(0, .pointer (some ⟨BA, 0, none⟩)), (2, .int .u64 0), (3, .pointer (some ⟨B1, 0, none⟩)), (8, .pointer (some ⟨B3, 0, none⟩)), (10, .pointer (some ⟨B4, 0, none⟩)), (111, (D.Mem.enc ((D.walkN a.mem a.hart.satp.ppn a.addr (⟨a.kind, a.hart.priv, a.hart.sum, a.hart.mxr⟩ : D.Way)).mem) z25)), (112, (D.Leaf.enc ((D.walkN a.mem a.hart.satp.ppn a.addr (⟨a.kind, a.hart.priv, a.hart.sum, a.hart.mxr⟩ : D.Way)).leaf))), (113, (D.Fault.enc ((D.walkN a.mem a.hart.satp.ppn a.addr (⟨a.kind, a.hart.priv, a.hart.sum, a.hart.mxr⟩ : D.Way)).fault)))] ∧ SX.Own w0 w [(BA, .cells (D.Acc.cs a s1 s2) 257 (0, 0)), (B1, .cells #[.bool false, .int .i64 0, .int .u64 0] 58 (0, 0)), (B2, .cells (D.Entry.cs ((a.hart.tlb.find a.hart.satp.asid a.addr).e)) 270 (0, 0)), (B3, .cells #[.int .u64 0, (.slice none 0 0)] 30 (0, 0)), (B4, .cells #[.bool false, .int .i64 0, .int .u64 0] 58 (0, 0))] ⟨(D.memF z25 (((D.walkN a.mem a.hart.satp.ppn a.addr (⟨a.kind, a.hart.priv, a.hart.sum, a.hart.mxr⟩ : D.Way)).mem).f)) :: (D.tlbF s1 a.hart.tlb.sets) :: (D.memF s2 a.mem.f) :: sl, fb, no⟩) 4 (SX.msk 34 1610612735) ?_ (fun hJ22 => ?_)
      · rintro ac w ⟨B3, B4, z25, A, H⟩
        refine SX.act 29 0 [0] A H kr kr kr (Or.inl kr) (k := 1) fun ac w A H => ?_
        exact SX.useD hJ20 kr kr ⟨SX.bb H 3, SX.bb H 5, SX.bb H 4, z25, A.sub _ kr, (H.pick [0, 1, 2, 3, 5, 4] _ kc kr).ro_pickT [0, 1, 2] 3 _ kr⟩
      refine SX.joinD (fun ac w => ∃ B3 B4 : Nat, ∃ z27 : SX.Sl, SX.Agrees 159 ac [(0, .pointer (some ⟨BA, 0, none⟩)), (2, .int .u64 0), (3, .pointer (some ⟨B1, 0, none⟩)), (8, .pointer (some ⟨B3, 0, none⟩)), (9, .pointer (some ⟨B4, 0, none⟩)), (111, (D.Mem.enc ((D.walkN a.mem a.hart.satp.ppn a.addr (⟨a.kind, a.hart.priv, a.hart.sum, a.hart.mxr⟩ : D.Way)).mem) z27)), (112, (D.Leaf.enc ((D.walkN a.mem a.hart.satp.ppn a.addr (⟨a.kind, a.hart.priv, a.hart.sum, a.hart.mxr⟩ : D.Way)).leaf))), (113, (D.Fault.enc ((D.walkN a.mem a.hart.satp.ppn a.addr (⟨a.kind, a.hart.priv, a.hart.sum, a.hart.mxr⟩ : D.Way)).fault)))] ∧ SX.Own w0 w [(BA, .cells (D.Acc.cs a s1 s2) 257 (0, 0)), (B1, .cells #[.bool false, .int .i64 0, .int .u64 0] 58 (0, 0)), (B2, .cells (D.Entry.cs ((a.hart.tlb.find a.hart.satp.asid a.addr).e)) 270 (0, 0)), (B3, .cells #[.int .u64 0, (.slice none 0 0)] 30 (0, 0)), (B4, .cells (D.Leaf.cs (⟨0, 0, (⟨false, false, false, false, false, false, false, false, 0, 0, 0⟩ : D.Pte)⟩ : D.Leaf)) 263 (0, 0))] ⟨(D.memF z27 (((D.walkN a.mem a.hart.satp.ppn a.addr (⟨a.kind, a.hart.priv, a.hart.sum, a.hart.mxr⟩ : D.Way)).mem).f)) :: (D.tlbF s1 a.hart.tlb.sets) :: (D.memF s2 a.mem.f) :: sl, fb, no⟩) 4 (SX.msk 34 1073741823) ?_ (fun hJ23 => ?_)
      · rintro ac w ⟨B3, B4, z27, A, H⟩
        refine SX.act 30 0 [0] A H kr kr kr (Or.inl kr) (k := 1) fun ac w A H => ?_
        exact SX.useD hJ20 kr kr ⟨SX.bb H 3, SX.bb H 4, SX.bb H 5, z27, A.sub _ kr, (H.pick [0, 1, 2, 3, 4, 5] _ kc kr).ro_pickT [0, 1, 2] 3 _ kr⟩
      refine SX.joinD (fun ac w => ∃ B3 : Nat, ∃ z26 : SX.Sl, SX.Agrees 159 ac [(0, .pointer (some ⟨BA, 0, none⟩)), (2, .int .u64 0), (3, .pointer (some ⟨B1, 0, none⟩)), (10, .pointer (some ⟨B3, 0, none⟩)), (111, (D.Mem.enc ((D.walkN a.mem a.hart.satp.ppn a.addr (⟨a.kind, a.hart.priv, a.hart.sum, a.hart.mxr⟩ : D.Way)).mem) z26)), (112, (D.Leaf.enc ((D.walkN a.mem a.hart.satp.ppn a.addr (⟨a.kind, a.hart.priv, a.hart.sum, a.hart.mxr⟩ : D.Way)).leaf))), (113, (D.Fault.enc ((D.walkN a.mem a.hart.satp.ppn a.addr (⟨a.kind, a.hart.priv, a.hart.sum, a.hart.mxr⟩ : D.Way)).fault)))] ∧ SX.Own w0 w [(BA, .cells (D.Acc.cs a s1 s2) 257 (0, 0)), (B1, .cells #[.bool false, .int .i64 0, .int .u64 0] 58 (0, 0)), (B2, .cells (D.Entry.cs ((a.hart.tlb.find a.hart.satp.asid a.addr).e)) 270 (0, 0)), (B3, .cells #[.bool false, .int .i64 0, .int .u64 0] 58 (0, 0))] ⟨(D.memF z26 (((D.walkN a.mem a.hart.satp.ppn a.addr (⟨a.kind, a.hart.priv, a.hart.sum, a.hart.mxr⟩ : D.Way)).mem).f)) :: (D.tlbF s1 a.hart.tlb.sets) :: (D.memF s2 a.mem.f) :: sl, fb, no⟩) 5 (SX.msk 34 1342177279) ?_ (fun hJ24 => ?_)
      · rintro ac w ⟨B3, z26, A, H⟩
        refine SX.many 28 [29] kr kr (SX.allC_cons ?_ (SX.allC_cons ?_ SX.allC_nil))
        ·
         refine SX.act_op 28 0 [0] A H kr (Or.inl kr) (k := 1) fun ac w A H => ?_
         exact SX.useD hJ22 kr kr ⟨SX.bb H 4, SX.bb H 3, z26, A.sub _ kr, (H.pick [0, 1, 2, 4, 3] _ kc kr).ro_pickT [0, 1, 2] 3 _ kr⟩
        ·
         refine SX.act_op 29 0 [0] A H kr (Or.inl kr) (k := 1) fun ac w A H => ?_
         exact SX.useD hJ21 kr kr ⟨SX.bb H 4, SX.bb H 3, z26, A.sub _ kr, (H.pick [0, 1, 2, 4, 3] _ kc kr).ro_pickT [0, 1, 2] 3 _ kr⟩
      refine SX.joinD (fun ac w => ∃ B3 : Nat, ∃ z28 : SX.Sl, SX.Agrees 159 ac [(0, .pointer (some ⟨BA, 0, none⟩)), (2, .int .u64 0), (3, .pointer (some ⟨B1, 0, none⟩)), (9, .pointer (some ⟨B3, 0, none⟩)), (111, (D.Mem.enc ((D.walkN a.mem a.hart.satp.ppn a.addr (⟨a.kind, a.hart.priv, a.hart.sum, a.hart.mxr⟩ : D.Way)).mem) z28)), (112, (D.Leaf.enc ((D.walkN a.mem a.hart.satp.ppn a.addr (⟨a.kind, a.hart.priv, a.hart.sum, a.hart.mxr⟩ : D.Way)).leaf))), (113, (D.Fault.enc ((D.walkN a.mem a.hart.satp.ppn a.addr (⟨a.kind, a.hart.priv, a.hart.sum, a.hart.mxr⟩ : D.Way)).fault)))] ∧ SX.Own w0 w [(BA, .cells (D.Acc.cs a s1 s2) 257 (0, 0)), (B1, .cells #[.bool false, .int .i64 0, .int .u64 0] 58 (0, 0)), (B2, .cells (D.Entry.cs ((a.hart.tlb.find a.hart.satp.asid a.addr).e)) 270 (0, 0)), (B3, .cells (D.Leaf.cs (⟨0, 0, (⟨false, false, false, false, false, false, false, false, 0, 0, 0⟩ : D.Pte)⟩ : D.Leaf)) 263 (0, 0))] ⟨(D.memF z28 (((D.walkN a.mem a.hart.satp.ppn a.addr (⟨a.kind, a.hart.priv, a.hart.sum, a.hart.mxr⟩ : D.Way)).mem).f)) :: (D.tlbF s1 a.hart.tlb.sets) :: (D.memF s2 a.mem.f) :: sl, fb, no⟩) 5 (SX.msk 34 805306367) ?_ (fun hJ25 => ?_)
      · rintro ac w ⟨B3, z28, A, H⟩
        refine SX.many 28 [30] kr kr (SX.allC_cons ?_ (SX.allC_cons ?_ SX.allC_nil))
        ·
         refine SX.act_op 28 0 [0] A H kr (Or.inl kr) (k := 1) fun ac w A H => ?_
         exact SX.useD hJ23 kr kr ⟨SX.bb H 4, SX.bb H 3, z28, A.sub _ kr, (H.pick [0, 1, 2, 4, 3] _ kc kr).ro_pickT [0, 1, 2] 3 _ kr⟩
        ·
         refine SX.act_op 30 0 [0] A H kr (Or.inl kr) (k := 1) fun ac w A H => ?_
         exact SX.useD hJ21 kr kr ⟨SX.bb H 3, SX.bb H 4, z28, A.sub _ kr, (H.pick [0, 1, 2, 3, 4] _ kc kr).ro_pickT [0, 1, 2] 3 _ kr⟩
      refine SX.joinD (fun ac w => ∃ B3 : Nat, ∃ z29 : SX.Sl, SX.Agrees 159 ac [(0, .pointer (some ⟨BA, 0, none⟩)), (2, .int .u64 0), (3, .pointer (some ⟨B1, 0, none⟩)), (8, .pointer (some ⟨B3, 0, none⟩)), (111, (D.Mem.enc ((D.walkN a.mem a.hart.satp.ppn a.addr (⟨a.kind, a.hart.priv, a.hart.sum, a.hart.mxr⟩ : D.Way)).mem) z29)), (112, (D.Leaf.enc ((D.walkN a.mem a.hart.satp.ppn a.addr (⟨a.kind, a.hart.priv, a.hart.sum, a.hart.mxr⟩ : D.Way)).leaf))), (113, (D.Fault.enc ((D.walkN a.mem a.hart.satp.ppn a.addr (⟨a.kind, a.hart.priv, a.hart.sum, a.hart.mxr⟩ : D.Way)).fault)))] ∧ SX.Own w0 w [(BA, .cells (D.Acc.cs a s1 s2) 257 (0, 0)), (B1, .cells #[.bool false, .int .i64 0, .int .u64 0] 58 (0, 0)), (B2, .cells (D.Entry.cs ((a.hart.tlb.find a.hart.satp.asid a.addr).e)) 270 (0, 0)), (B3, .cells #[.int .u64 0, (.slice none 0 0)] 30 (0, 0))] ⟨(D.memF z29 (((D.walkN a.mem a.hart.satp.ppn a.addr (⟨a.kind, a.hart.priv, a.hart.sum, a.hart.mxr⟩ : D.Way)).mem).f)) :: (D.tlbF s1 a.hart.tlb.sets) :: (D.memF s2 a.mem.f) :: sl, fb, no⟩) 5 (SX.msk 34 536870911) ?_ (fun hJ26 => ?_)
      · rintro ac w ⟨B3, z29, A, H⟩
        refine SX.many 29 [30] kr kr (SX.allC_cons ?_ (SX.allC_cons ?_ SX.allC_nil))
        ·
         refine SX.act_op 29 0 [0] A H kr (Or.inl kr) (k := 1) fun ac w A H => ?_
         exact SX.useD hJ23 kr kr ⟨SX.bb H 3, SX.bb H 4, z29, A.sub _ kr, (H.pick [0, 1, 2, 3, 4] _ kc kr).ro_pickT [0, 1, 2] 3 _ kr⟩
        ·
         refine SX.act_op 30 0 [0] A H kr (Or.inl kr) (k := 1) fun ac w A H => ?_
         exact SX.useD hJ22 kr kr ⟨SX.bb H 3, SX.bb H 4, z29, A.sub _ kr, (H.pick [0, 1, 2, 3, 4] _ kc kr).ro_pickT [0, 1, 2] 3 _ kr⟩
      refine SX.joinD (fun ac w => ∃ B3 B4 B5 : Nat, SX.Agrees 159 ac [(0, .pointer (some ⟨BA, 0, none⟩)), (2, .int .u64 0), (3, .pointer (some ⟨B1, 0, none⟩)), (8, .pointer (some ⟨B3, 0, none⟩)), (9, .pointer (some ⟨B4, 0, none⟩)), (10, .pointer (some ⟨B5, 0, none⟩)), (90, (D.Mem.enc a.mem s2)), (96, .int .u64 (((a.hart.satp.ppn : Nat) : Int))), (100, .int .u64 (((a.addr : Nat) : Int))), (109, (D.Way.enc (⟨a.kind, a.hart.priv, a.hart.sum, a.hart.mxr⟩ : D.Way)))] ∧ SX.Own w0 w [(BA, .cells (D.Acc.cs a s1 s2) 257 (0, 0)), (B1, .cells #[.bool false, .int .i64 0, .int .u64 0] 58 (0, 0)), (B2, .cells (D.Entry.cs ((a.hart.tlb.find a.hart.satp.asid a.addr).e)) 270 (0, 0)), (B3, .cells #[.int .u64 0, (.slice none 0 0)] 30 (0, 0)), (B4, .cells (D.Leaf.cs (⟨0, 0, (⟨false, false, false, false, false, false, false, false, 0, 0, 0⟩ : D.Pte)⟩ : D.Leaf)) 263 (0, 0)), (B5, .cells #[.bool false, .int .i64 0, .int .u64 0] 58 (0, 0))] ⟨(D.tlbF s1 a.hart.tlb.sets) :: (D.memF s2 a.mem.f) :: sl, fb, no⟩) 8 (SX.msk 34 1887436799) ?_ (fun hJ27 => ?_)
      · rintro ac w ⟨B3, B4, B5, A, H⟩
        refine SX.callD 23 [0] A H (Walk_calls a.mem a.hart.satp.ppn a.addr (⟨a.kind, a.hart.priv, a.hart.sum, a.hart.mxr⟩ : D.Way) s2 w H.nos_lt (H.fact' 1 (D.memF s2 a.mem.f) kr) (hL.below H.below) ko ko (hk) (by first | assumption | omega)) kr kr kr kr (Or.inl kr) ?_
        rintro _ ac w ⟨z32, rfl, hz32⟩ A H
        have H := H.learn (D.memF z32 (((D.walkN a.mem a.hart.satp.ppn a.addr (⟨a.kind, a.hart.priv, a.hart.sum, a.hart.mxr⟩ : D.Way)).mem).f)) hz32
        refine SX.takes [0] [(24, none), (25, none), (26, none), (27, none)] A H kr kd kr kr kr (Or.inl kr) (k := 1) fun ac A => ?_
        exact SX.useD hJ20 kr kr ⟨SX.bb H 3, SX.bb H 4, SX.bb H 5, z32, A.sub _ kr, (H.pick [0, 1, 2, 3, 4, 5] _ kc kr).ro_pickT [0, 1, 2] 3 _ kr⟩
      refine SX.joinD (fun ac w => ∃ B3 B4 : Nat, SX.Agrees 159 ac [(0, .pointer (some ⟨BA, 0, none⟩)), (2, .int .u64 0), (3, .pointer (some ⟨B1, 0, none⟩)), (9, .pointer (some ⟨B3, 0, none⟩)), (10, .pointer (some ⟨B4, 0, none⟩)), (90, (D.Mem.enc a.mem s2)), (96, .int .u64 (((a.hart.satp.ppn : Nat) : Int))), (100, .int .u64 (((a.addr : Nat) : Int))), (109, (D.Way.enc (⟨a.kind, a.hart.priv, a.hart.sum, a.hart.mxr⟩ : D.Way)))] ∧ SX.Own w0 w [(BA, .cells (D.Acc.cs a s1 s2) 257 (0, 0)), (B1, .cells #[.bool false, .int .i64 0, .int .u64 0] 58 (0, 0)), (B2, .cells (D.Entry.cs ((a.hart.tlb.find a.hart.satp.asid a.addr).e)) 270 (0, 0)), (B3, .cells (D.Leaf.cs (⟨0, 0, (⟨false, false, false, false, false, false, false, false, 0, 0, 0⟩ : D.Pte)⟩ : D.Leaf)) 263 (0, 0)), (B4, .cells #[.bool false, .int .i64 0, .int .u64 0] 58 (0, 0))] ⟨(D.tlbF s1 a.hart.tlb.sets) :: (D.memF s2 a.mem.f) :: sl, fb, no⟩) 9 (SX.msk 34 1619001343) ?_ (fun hJ28 => ?_)
      · rintro ac w ⟨B3, B4, A, H⟩
        refine SX.many 23 [28] kr kr (SX.allC_cons ?_ (SX.allC_cons ?_ SX.allC_nil))
        ·
         refine SX.callD_op 23 [0] A H (Walk_calls a.mem a.hart.satp.ppn a.addr (⟨a.kind, a.hart.priv, a.hart.sum, a.hart.mxr⟩ : D.Way) s2 w H.nos_lt (H.fact' 1 (D.memF s2 a.mem.f) kr) (hL.below H.below) ko ko (hk) (by first | assumption | omega)) kr kr (Or.inl kr) ?_
         rintro _ ac w ⟨z33, rfl, hz33⟩ A H
         have H := H.learn (D.memF z33 (((D.walkN a.mem a.hart.satp.ppn a.addr (⟨a.kind, a.hart.priv, a.hart.sum, a.hart.mxr⟩ : D.Way)).mem).f)) hz33
         refine SX.takes [0] [(24, none), (25, none), (26, none), (27, none)] A H kr kd kr kr kr (Or.inl kr) (k := 1) fun ac A => ?_
         exact SX.useD hJ21 kr kr ⟨SX.bb H 3, SX.bb H 4, z33, A.sub _ kr, (H.pick [0, 1, 2, 3, 4] _ kc kr).ro_pickT [0, 1, 2] 3 _ kr⟩
        ·
         refine SX.act_op 28 0 [0] A H kr (Or.inl kr) fun ac w A H => ?_
         exact SX.useD hJ27 kr kr ⟨SX.bb H 5, SX.bb H 3, SX.bb H 4, A.sub _ kr, (H.pick [0, 1, 2, 5, 3, 4] _ kc kr).ro_pickT [0, 1] 2 _ kr⟩
      refine SX.joinD (fun ac w => ∃ B3 B4 B5 : Nat, SX.Agrees 159 ac [(0, .pointer (some ⟨BA, 0, none⟩)), (2, .int .u64 0), (3, .pointer (some ⟨B1, 0, none⟩)), (8, .pointer (some ⟨B3, 0, none⟩)), (9, .pointer (some ⟨B4, 0, none⟩)), (10, .pointer (some ⟨B5, 0, none⟩)), (90, (D.Mem.enc a.mem s2)), (96, .int .u64 (((a.hart.satp.ppn : Nat) : Int))), (100, .int .u64 (((a.addr : Nat) : Int))), (104, (D.Hart.enc a.hart s1)), (108, .int .i64 (a.kind))] ∧ SX.Own w0 w [(BA, .cells (D.Acc.cs a s1 s2) 257 (0, 0)), (B1, .cells #[.bool false, .int .i64 0, .int .u64 0] 58 (0, 0)), (B2, .cells (D.Entry.cs ((a.hart.tlb.find a.hart.satp.asid a.addr).e)) 270 (0, 0)), (B3, .cells #[.int .u64 0, (.slice none 0 0)] 30 (0, 0)), (B4, .cells (D.Leaf.cs (⟨0, 0, (⟨false, false, false, false, false, false, false, false, 0, 0, 0⟩ : D.Pte)⟩ : D.Leaf)) 263 (0, 0)), (B5, .cells #[.bool false, .int .i64 0, .int .u64 0] 58 (0, 0))] ⟨(D.tlbF s1 a.hart.tlb.sets) :: (D.memF s2 a.mem.f) :: sl, fb, no⟩) 9 (SX.msk 34 1883242495) ?_ (fun hJ29 => ?_)
      · rintro ac w ⟨B3, B4, B5, A, H⟩
        refine SX.callGD 22 [0] A H (Way_calls a.hart a.kind s1 w H.nos_lt (H.fact' 0 (D.tlbF s1 a.hart.tlb.sets) kr)) kr kr kr kr (Or.inl kr) fun ac w A H => ?_
        exact SX.useD hJ27 kr kr ⟨SX.bb H 3, SX.bb H 4, SX.bb H 5, A.sub _ kr, (H.pick [0, 1, 2, 3, 4, 5] _ kc kr).ro_pickT [0, 1] 2 _ kr⟩
      refine SX.joinD (fun ac w => ∃ B3 B4 : Nat, SX.Agrees 159 ac [(0, .pointer (some ⟨BA, 0, none⟩)), (2, .int .u64 0), (3, .pointer (some ⟨B1, 0, none⟩)), (8, .pointer (some ⟨B3, 0, none⟩)), (10, .pointer (some ⟨B4, 0, none⟩)), (90, (D.Mem.enc a.mem s2)), (96, .int .u64 (((a.hart.satp.ppn : Nat) : Int))), (100, .int .u64 (((a.addr : Nat) : Int))), (109, (D.Way.enc (⟨a.kind, a.hart.priv, a.hart.sum, a.hart.mxr⟩ : D.Way)))] ∧ SX.Own w0 w [(BA, .cells (D.Acc.cs a s1 s2) 257 (0, 0)), (B1, .cells #[.bool false, .int .i64 0, .int .u64 0] 58 (0, 0)), (B2, .cells (D.Entry.cs ((a.hart.tlb.find a.hart.satp.asid a.addr).e)) 270 (0, 0)), (B3, .cells #[.int .u64 0, (.slice none 0 0)] 30 (0, 0)), (B4, .cells #[.bool false, .int .i64 0, .int .u64 0] 58 (0, 0))] ⟨(D.tlbF s1 a.hart.tlb.sets) :: (D.memF s2 a.mem.f) :: sl, fb, no⟩) 9 (SX.msk 34 1350565887) ?_ (fun hJ30 => ?_)
      · rintro ac w ⟨B3, B4, A, H⟩
        refine SX.many 23 [29] kr kr (SX.allC_cons ?_ (SX.allC_cons ?_ SX.allC_nil))
        ·
         refine SX.callD_op 23 [0] A H (Walk_calls a.mem a.hart.satp.ppn a.addr (⟨a.kind, a.hart.priv, a.hart.sum, a.hart.mxr⟩ : D.Way) s2 w H.nos_lt (H.fact' 1 (D.memF s2 a.mem.f) kr) (hL.below H.below) ko ko (hk) (by first | assumption | omega)) kr kr (Or.inl kr) ?_
         rintro _ ac w ⟨z34, rfl, hz34⟩ A H
         have H := H.learn (D.memF z34 (((D.walkN a.mem a.hart.satp.ppn a.addr (⟨a.kind, a.hart.priv, a.hart.sum, a.hart.mxr⟩ : D.Way)).mem).f)) hz34
         refine SX.takes [0] [(24, none), (25, none), (26, none), (27, none)] A H kr kd kr kr kr (Or.inl kr) (k := 1) fun ac A => ?_
         exact SX.useD hJ22 kr kr ⟨SX.bb H 3, SX.bb H 4, z34, A.sub _ kr, (H.pick [0, 1, 2, 3, 4] _ kc kr).ro_pickT [0, 1, 2] 3 _ kr⟩
        ·
         refine SX.act_op 29 0 [0] A H kr (Or.inl kr) fun ac w A H => ?_
         exact SX.useD hJ27 kr kr ⟨SX.bb H 3, SX.bb H 5, SX.bb H 4, A.sub _ kr, (H.pick [0, 1, 2, 3, 5, 4] _ kc kr).ro_pickT [0, 1] 2 _ kr⟩
      refine SX.joinD (fun ac w => ∃ B3 B4 : Nat, SX.Agrees 159 ac [(0, .pointer (some ⟨BA, 0, none⟩)), (2, .int .u64 0), (3, .pointer (some ⟨B1, 0, none⟩)), (8, .pointer (some ⟨B3, 0, none⟩)), (9, .pointer (some ⟨B4, 0, none⟩)), (90, (D.Mem.enc a.mem s2)), (96, .int .u64 (((a.hart.satp.ppn : Nat) : Int))), (100, .int .u64 (((a.addr : Nat) : Int))), (109, (D.Way.enc (⟨a.kind, a.hart.priv, a.hart.sum, a.hart.mxr⟩ : D.Way)))] ∧ SX.Own w0 w [(BA, .cells (D.Acc.cs a s1 s2) 257 (0, 0)), (B1, .cells #[.bool false, .int .i64 0, .int .u64 0] 58 (0, 0)), (B2, .cells (D.Entry.cs ((a.hart.tlb.find a.hart.satp.asid a.addr).e)) 270 (0, 0)), (B3, .cells #[.int .u64 0, (.slice none 0 0)] 30 (0, 0)), (B4, .cells (D.Leaf.cs (⟨0, 0, (⟨false, false, false, false, false, false, false, false, 0, 0, 0⟩ : D.Pte)⟩ : D.Leaf)) 263 (0, 0))] ⟨(D.tlbF s1 a.hart.tlb.sets) :: (D.memF s2 a.mem.f) :: sl, fb, no⟩) 9 (SX.msk 34 813694975) ?_ (fun hJ31 => ?_)
      · rintro ac w ⟨B3, B4, A, H⟩
        refine SX.many 23 [30] kr kr (SX.allC_cons ?_ (SX.allC_cons ?_ SX.allC_nil))
        ·
         refine SX.callD_op 23 [0] A H (Walk_calls a.mem a.hart.satp.ppn a.addr (⟨a.kind, a.hart.priv, a.hart.sum, a.hart.mxr⟩ : D.Way) s2 w H.nos_lt (H.fact' 1 (D.memF s2 a.mem.f) kr) (hL.below H.below) ko ko (hk) (by first | assumption | omega)) kr kr (Or.inl kr) ?_
         rintro _ ac w ⟨z35, rfl, hz35⟩ A H
         have H := H.learn (D.memF z35 (((D.walkN a.mem a.hart.satp.ppn a.addr (⟨a.kind, a.hart.priv, a.hart.sum, a.hart.mxr⟩ : D.Way)).mem).f)) hz35
         refine SX.takes [0] [(24, none), (25, none), (26, none), (27, none)] A H kr kd kr kr kr (Or.inl kr) (k := 1) fun ac A => ?_
         exact SX.useD hJ23 kr kr ⟨SX.bb H 3, SX.bb H 4, z35, A.sub _ kr, (H.pick [0, 1, 2, 3, 4] _ kc kr).ro_pickT [0, 1, 2] 3 _ kr⟩
        ·
         refine SX.act_op 30 0 [0] A H kr (Or.inl kr) fun ac w A H => ?_
         exact SX.useD hJ27 kr kr ⟨SX.bb H 3, SX.bb H 4, SX.bb H 5, A.sub _ kr, (H.pick [0, 1, 2, 3, 4, 5] _ kc kr).ro_pickT [0, 1] 2 _ kr⟩
      refine SX.joinD (fun ac w => ∃ B3 : Nat, SX.Agrees 159 ac [(0, .pointer (some ⟨BA, 0, none⟩)), (2, .int .u64 0), (3, .pointer (some ⟨B1, 0, none⟩)), (10, .pointer (some ⟨B3, 0, none⟩)), (90, (D.Mem.enc a.mem s2)), (96, .int .u64 (((a.hart.satp.ppn : Nat) : Int))), (100, .int .u64 (((a.addr : Nat) : Int))), (109, (D.Way.enc (⟨a.kind, a.hart.priv, a.hart.sum, a.hart.mxr⟩ : D.Way)))] ∧ SX.Own w0 w [(BA, .cells (D.Acc.cs a s1 s2) 257 (0, 0)), (B1, .cells #[.bool false, .int .i64 0, .int .u64 0] 58 (0, 0)), (B2, .cells (D.Entry.cs ((a.hart.tlb.find a.hart.satp.asid a.addr).e)) 270 (0, 0)), (B3, .cells #[.bool false, .int .i64 0, .int .u64 0] 58 (0, 0))] ⟨(D.tlbF s1 a.hart.tlb.sets) :: (D.memF s2 a.mem.f) :: sl, fb, no⟩) 10 (SX.msk 34 1082130431) ?_ (fun hJ32 => ?_)
      · rintro ac w ⟨B3, A, H⟩
        refine SX.many 23 [28, 29] kr kr (SX.allC_cons ?_ (SX.allC_cons ?_ (SX.allC_cons ?_ SX.allC_nil)))
        ·
         refine SX.callD_op 23 [0] A H (Walk_calls a.mem a.hart.satp.ppn a.addr (⟨a.kind, a.hart.priv, a.hart.sum, a.hart.mxr⟩ : D.Way) s2 w H.nos_lt (H.fact' 1 (D.memF s2 a.mem.f) kr) (hL.below H.below) ko ko (hk) (by first | assumption | omega)) kr kr (Or.inl kr) ?_
         rintro _ ac w ⟨z36, rfl, hz36⟩ A H
         have H := H.learn (D.memF z36 (((D.walkN a.mem a.hart.satp.ppn a.addr (⟨a.kind, a.hart.priv, a.hart.sum, a.hart.mxr⟩ : D.Way)).mem).f)) hz36
         refine SX.takes [0] [(24, none), (25, none), (26, none), (27, none)] A H kr kd kr kr kr (Or.inl kr) (k := 1) fun ac A => ?_
         exact SX.useD hJ24 kr kr ⟨SX.bb H 3, z36, A.sub _ kr, (H.pick [0, 1, 2, 3] _ kc kr).ro_pickT [0, 1, 2] 3 _ kr⟩
        ·
         refine SX.act_op 28 0 [0] A H kr (Or.inl kr) fun ac w A H => ?_
         exact SX.useD hJ30 kr kr ⟨SX.bb H 4, SX.bb H 3, A.sub _ kr, (H.pick [0, 1, 2, 4, 3] _ kc kr).ro_pickT [0, 1] 2 _ kr⟩
        ·
         refine SX.act_op 29 0 [0] A H kr (Or.inl kr) fun ac w A H => ?_
         exact SX.useD hJ28 kr kr ⟨SX.bb H 4, SX.bb H 3, A.sub _ kr, (H.pick [0, 1, 2, 4, 3] _ kc kr).ro_pickT [0, 1] 2 _ kr⟩
      refine SX.joinD (fun ac w => ∃ B3 B4 : Nat, SX.Agrees 159 ac [(0, .pointer (some ⟨BA, 0, none⟩)), (2, .int .u64 0), (3, .pointer (some ⟨B1, 0, none⟩)), (8, .pointer (some ⟨B3, 0, none⟩)), (10, .pointer (some ⟨B4, 0, none⟩)), (90, (D.Mem.enc a.mem s2)), (96, .int .u64 (((a.hart.satp.ppn : Nat) : Int))), (100, .int .u64 (((a.addr : Nat) : Int))), (104, (D.Hart.enc a.hart s1)), (108, .int .i64 (a.kind))] ∧ SX.Own w0 w [(BA, .cells (D.Acc.cs a s1 s2) 257 (0, 0)), (B1, .cells #[.bool false, .int .i64 0, .int .u64 0] 58 (0, 0)), (B2, .cells (D.Entry.cs ((a.hart.tlb.find a.hart.satp.asid a.addr).e)) 270 (0, 0)), (B3, .cells #[.int .u64 0, (.slice none 0 0)] 30 (0, 0)), (B4, .cells #[.bool false, .int .i64 0, .int .u64 0] 58 (0, 0))] ⟨(D.tlbF s1 a.hart.tlb.sets) :: (D.memF s2 a.mem.f) :: sl, fb, no⟩) 10 (SX.msk 34 1346371583) ?_ (fun hJ33 => ?_)
      · rintro ac w ⟨B3, B4, A, H⟩
        refine SX.many 22 [29] kr kr (SX.allC_cons ?_ (SX.allC_cons ?_ SX.allC_nil))
        ·
         refine SX.callGD_op 22 [0] A H (Way_calls a.hart a.kind s1 w H.nos_lt (H.fact' 0 (D.tlbF s1 a.hart.tlb.sets) kr)) kr kr (Or.inl kr) fun ac w A H => ?_
         exact SX.useD hJ30 kr kr ⟨SX.bb H 3, SX.bb H 4, A.sub _ kr, (H.pick [0, 1, 2, 3, 4] _ kc kr).ro_pickT [0, 1] 2 _ kr⟩
        ·
         refine SX.act_op 29 0 [0] A H kr (Or.inl kr) fun ac w A H => ?_
         exact SX.useD hJ29 kr kr ⟨SX.bb H 3, SX.bb H 5, SX.bb H 4, A.sub _ kr, (H.pick [0, 1, 2, 3, 5, 4] _ kc kr).ro_pickT [0, 1] 2 _ kr⟩
      refine SX.joinD (fun ac w => ∃ B3 B4 : Nat, SX.Agrees 159 ac [(0, .pointer (some ⟨BA, 0, none⟩)), (2, .int .u64 0), (3, .pointer (some ⟨B1, 0, none⟩)), (9, .pointer (some ⟨B3, 0, none⟩)), (10, .pointer (some ⟨B4, 0, none⟩)), (90, (D.Mem.enc a.mem s2)), (96, .int .u64 (((a.hart.satp.ppn : Nat) : Int))), (100, .int .u64 (((a.addr : Nat) : Int))), (104, (D.Hart.enc a.hart s1)), (108, .int .i64 (a.kind))] ∧ SX.Own w0 w [(BA, .cells (D.Acc.cs a s1 s2) 257 (0, 0)), (B1, .cells #[.bool false, .int .i64 0, .int .u64 0] 58 (0, 0)), (B2, .cells (D.Entry.cs ((a.hart.tlb.find a.hart.satp.asid a.addr).e)) 270 (0, 0)), (B3, .cells (D.Leaf.cs (⟨0, 0, (⟨false, false, false, false, false, false, false, false, 0, 0, 0⟩ : D.Pte)⟩ : D.Leaf)) 263 (0, 0)), (B4, .cells #[.bool false, .int .i64 0, .int .u64 0] 58 (0, 0))] ⟨(D.tlbF s1 a.hart.tlb.sets) :: (D.memF s2 a.mem.f) :: sl, fb, no⟩) 10 (SX.msk 34 1614807039) ?_ (fun hJ34 => ?_)
      · rintro ac w ⟨B3, B4, A, H⟩
        refine SX.many 22 [28] kr kr (SX.allC_cons ?_ (SX.allC_cons ?_ SX.allC_nil))
        ·
         refine SX.callGD_op 22 [0] A H (Way_calls a.hart a.kind s1 w H.nos_lt (H.fact' 0 (D.tlbF s1 a.hart.tlb.sets) kr)) kr kr (Or.inl kr) fun ac w A H => ?_
         exact SX.useD hJ28 kr kr ⟨SX.bb H 3, SX.bb H 4, A.sub _ kr, (H.pick [0, 1, 2, 3, 4] _ kc kr).ro_pickT [0, 1] 2 _ kr⟩
        ·
         refine SX.act_op 28 0 [0] A H kr (Or.inl kr) fun ac w A H => ?_
         exact SX.useD hJ29 kr kr ⟨SX.bb H 5, SX.bb H 3, SX.bb H 4, A.sub _ kr, (H.pick [0, 1, 2, 5, 3, 4] _ kc kr).ro_pickT [0, 1] 2 _ kr⟩
      refine SX.joinD (fun ac w => ∃ B3 : Nat, SX.Agrees 159 ac [(0, .pointer (some ⟨BA, 0, none⟩)), (2, .int .u64 0), (3, .pointer (some ⟨B1, 0, none⟩)), (9, .pointer (some ⟨B3, 0, none⟩)), (90, (D.Mem.enc a.mem s2)), (96, .int .u64 (((a.hart.satp.ppn : Nat) : Int))), (100, .int .u64 (((a.addr : Nat) : Int))), (109, (D.Way.enc (⟨a.kind, a.hart.priv, a.hart.sum, a.hart.mxr⟩ : D.Way)))] ∧ SX.Own w0 w [(BA, .cells (D.Acc.cs a s1 s2) 257 (0, 0)), (B1, .cells #[.bool false, .int .i64 0, .int .u64 0] 58 (0, 0)), (B2, .cells (D.Entry.cs ((a.hart.tlb.find a.hart.satp.asid a.addr).e)) 270 (0, 0)), (B3, .cells (D.Leaf.cs (⟨0, 0, (⟨false, false, false, false, false, false, false, false, 0, 0, 0⟩ : D.Pte)⟩ : D.Leaf)) 263 (0, 0))] ⟨(D.tlbF s1 a.hart.tlb.sets) :: (D.memF s2 a.mem.f) :: sl, fb, no⟩) 10 (SX.msk 34 545259519) ?_ (fun hJ35 => ?_)
      · rintro ac w ⟨B3, A, H⟩
        refine SX.many 23 [28, 30] kr kr (SX.allC_cons ?_ (SX.allC_cons ?_ (SX.allC_cons ?_ SX.allC_nil)))
        ·
         refine SX.callD_op 23 [0] A H (Walk_calls a.mem a.hart.satp.ppn a.addr (⟨a.kind, a.hart.priv, a.hart.sum, a.hart.mxr⟩ : D.Way) s2 w H.nos_lt (H.fact' 1 (D.memF s2 a.mem.f) kr) (hL.below H.below) ko ko (hk) (by first | assumption | omega)) kr kr (Or.inl kr) ?_
         rintro _ ac w ⟨z37, rfl, hz37⟩ A H
         have H := H.learn (D.memF z37 (((D.walkN a.mem a.hart.satp.ppn a.addr (⟨a.kind, a.hart.priv, a.hart.sum, a.hart.mxr⟩ : D.Way)).mem).f)) hz37
         refine SX.takes [0] [(24, none), (25, none), (26, none), (27, none)] A H kr kd kr kr kr (Or.inl kr) (k := 1) fun ac A => ?_
         exact SX.useD hJ25 kr kr ⟨SX.bb H 3, z37, A.sub _ kr, (H.pick [0, 1, 2, 3] _ kc kr).ro_pickT [0, 1, 2] 3 _ kr⟩
        ·
         refine SX.act_op 28 0 [0] A H kr (Or.inl kr) fun ac w A H => ?_
         exact SX.useD hJ31 kr kr ⟨SX.bb H 4, SX.bb H 3, A.sub _ kr, (H.pick [0, 1, 2, 4, 3] _ kc kr).ro_pickT [0, 1] 2 _ kr⟩
        ·
         refine SX.act_op 30 0 [0] A H kr (Or.inl kr) fun ac w A H => ?_
         exact SX.useD hJ28 kr kr ⟨SX.bb H 3, SX.bb H 4, A.sub _ kr, (H.pick [0, 1, 2, 3, 4] _ kc kr).ro_pickT [0, 1] 2 _ kr⟩
      refine SX.joinD (fun ac w => ∃ B3 B4 : Nat, SX.Agrees 159 ac [(0, .pointer (some ⟨BA, 0, none⟩)), (2, .int .u64 0), (3, .pointer (some ⟨B1, 0, none⟩)), (8, .pointer (some ⟨B3, 0, none⟩)), (9, .pointer (some ⟨B4, 0, none⟩)), (90, (D.Mem.enc a.mem s2)), (96, .int .u64 (((a.hart.satp.ppn : Nat) : Int))), (100, .int .u64 (((a.addr : Nat) : Int))), (104, (D.Hart.enc a.hart s1)), (108, .int .i64 (a.kind))] ∧ SX.Own w0 w [(BA, .cells (D.Acc.cs a s1 s2) 257 (0, 0)), (B1, .cells #[.bool false, .int .i64 0, .int .u64 0] 58 (0, 0)), (B2, .cells (D.Entry.cs ((a.hart.tlb.find a.hart.satp.asid a.addr).e)) 270 (0, 0)), (B3, .cells #[.int .u64 0, (.slice none 0 0)] 30 (0, 0)), (B4, .cells (D.Leaf.cs (⟨0, 0, (⟨false, false, false, false, false, false, false, false, 0, 0, 0⟩ : D.Pte)⟩ : D.Leaf)) 263 (0, 0))] ⟨(D.tlbF s1 a.hart.tlb.sets) :: (D.memF s2 a.mem.f) :: sl, fb, no⟩) 10 (SX.msk 34 809500671) ?_ (fun hJ36 => ?_)
      · rintro ac w ⟨B3, B4, A, H⟩
        refine SX.many 22 [30] kr kr (SX.allC_cons ?_ (SX.allC_cons ?_ SX.allC_nil))
        ·
         refine SX.callGD_op 22 [0] A H (Way_calls a.hart a.kind s1 w H.nos_lt (H.fact' 0 (D.tlbF s1 a.hart.tlb.sets) kr)) kr kr (Or.inl kr) fun ac w A H => ?_
         exact SX.useD hJ31 kr kr ⟨SX.bb H 3, SX.bb H 4, A.sub _ kr, (H.pick [0, 1, 2, 3, 4] _ kc kr).ro_pickT [0, 1] 2 _ kr⟩
        ·
         refine SX.act_op 30 0 [0] A H kr (Or.inl kr) fun ac w A H => ?_
         exact SX.useD hJ29 kr kr ⟨SX.bb H 3, SX.bb H 4, SX.bb H 5, A.sub _ kr, (H.pick [0, 1, 2, 3, 4, 5] _ kc kr).ro_pickT [0, 1] 2 _ kr⟩
      refine SX.joinD (fun ac w => ∃ B3 : Nat, SX.Agrees 159 ac [(0, .pointer (some ⟨BA, 0, none⟩)), (2, .int .u64 0), (3, .pointer (some ⟨B1, 0, none⟩)), (8, .pointer (some ⟨B3, 0, none⟩)), (90, (D.Mem.enc a.mem s2)), (96, .int .u64 (((a.hart.satp.ppn : Nat) : Int))), (100, .int .u64 (((a.addr : Nat) : Int))), (109, (D.Way.enc (⟨a.kind, a.hart.priv, a.hart.sum, a.hart.mxr⟩ : D.Way)))] ∧ SX.Own w0 w [(BA, .cells (D.Acc.cs a s1 s2) 257 (0, 0)), (B1, .cells #[.bool false, .int .i64 0, .int .u64 0] 58 (0, 0)), (B2, .cells (D.Entry.cs ((a.hart.tlb.find a.hart.satp.asid a.addr).e)) 270 (0, 0)), (B3, .cells #[.int .u64 0, (.slice none 0 0)] 30 (0, 0))] ⟨(D.tlbF s1 a.hart.tlb.sets) :: (D.memF s2 a.mem.f) :: sl, fb, no⟩) 10 (SX.msk 34 276824063) ?_ (fun hJ37 => ?_)
      · rintro ac w ⟨B3, A, H⟩
        refine SX.many 23 [29, 30] kr kr (SX.allC_cons ?_ (SX.allC_cons ?_ (SX.allC_cons ?_ SX.allC_nil)))
        ·
         refine SX.callD_op 23 [0] A H (Walk_calls a.mem a.hart.satp.ppn a.addr (⟨a.kind, a.hart.priv, a.hart.sum, a.hart.mxr⟩ : D.Way) s2 w H.nos_lt (H.fact' 1 (D.memF s2 a.mem.f) kr) (hL.below H.below) ko ko (hk) (by first | assumption | omega)) kr kr (Or.inl kr) ?_
         rintro _ ac w ⟨z38, rfl, hz38⟩ A H
         have H := H.learn (D.memF z38 (((D.walkN a.mem a.hart.satp.ppn a.addr (⟨a.kind, a.hart.priv, a.hart.sum, a.hart.mxr⟩ : D.Way)).mem).f)) hz38
         refine SX.takes [0] [(24, none), (25, none), (26, none), (27, none)] A H kr kd kr kr kr (Or.inl kr) (k := 1) fun ac A => ?_
         exact SX.useD hJ26 kr kr ⟨SX.bb H 3, z38, A.sub _ kr, (H.pick [0, 1, 2, 3] _ kc kr).ro_pickT [0, 1, 2] 3 _ kr⟩
        ·
         refine SX.act_op 29 0 [0] A H kr (Or.inl kr) fun ac w A H => ?_
         exact SX.useD hJ31 kr kr ⟨SX.bb H 3, SX.bb H 4, A.sub _ kr, (H.pick [0, 1, 2, 3, 4] _ kc kr).ro_pickT [0, 1] 2 _ kr⟩
        ·
         refine SX.act_op 30 0 [0] A H kr (Or.inl kr) fun ac w A H => ?_
         exact SX.useD hJ30 kr kr ⟨SX.bb H 3, SX.bb H 4, A.sub _ kr, (H.pick [0, 1, 2, 3, 4] _ kc kr).ro_pickT [0, 1] 2 _ kr⟩
      refine SX.many 22 [28, 29, 30] kr kr (SX.allC_cons ?_ (SX.allC_cons ?_ (SX.allC_cons ?_ (SX.allC_cons ?_ SX.allC_nil))))
      ·
       refine SX.callGD_op 22 [0] A H (Way_calls a.hart a.kind s1 w H.nos_lt (H.fact' 0 (D.tlbF s1 a.hart.tlb.sets) kr)) kr kr (Or.inl kr) fun ac w A H => ?_
       refine SX.many 23 [28, 29, 30] kr kr (SX.allC_cons ?_ (SX.allC_cons ?_ (SX.allC_cons ?_ (SX.allC_cons ?_ SX.allC_nil))))
       ·
        refine SX.callD_op 23 [0] A H (Walk_calls a.mem a.hart.satp.ppn a.addr (⟨a.kind, a.hart.priv, a.hart.sum, a.hart.mxr⟩ : D.Way) s2 w H.nos_lt (H.fact' 1 (D.memF s2 a.mem.f) kr) (hL.below H.below) ko ko (hk) (by first | assumption | omega)) kr kr (Or.inl kr) ?_
        rintro _ ac w ⟨z39, rfl, hz39⟩ A H
        have H := H.learn (D.memF z39 (((D.walkN a.mem a.hart.satp.ppn a.addr (⟨a.kind, a.hart.priv, a.hart.sum, a.hart.mxr⟩ : D.Way)).mem).f)) hz39
        refine SX.takes [0] [(24, none), (25, none), (26, none), (27, none)] A H kr kd kr kr kr (Or.inl kr) (k := 1) fun ac A => ?_
        refine SX.many 28 [29, 30] kr kr (SX.allC_cons ?_ (SX.allC_cons ?_ (SX.allC_cons ?_ SX.allC_nil)))
        ·
         refine SX.act_op 28 0 [0] A H kr (Or.inl kr) (k := 1) fun ac w A H => ?_
         exact SX.useD hJ26 kr kr ⟨SX.bb H 3, z39, A.sub _ kr, (H.pick [0, 1, 2, 3] _ kc kr).ro_pickT [0, 1, 2] 3 _ kr⟩
        ·
         refine SX.act_op 29 0 [0] A H kr (Or.inl kr) (k := 1) fun ac w A H => ?_
         exact SX.useD hJ25 kr kr ⟨SX.bb H 3, z39, A.sub _ kr, (H.pick [0, 1, 2, 3] _ kc kr).ro_pickT [0, 1, 2] 3 _ kr⟩
        ·
         refine SX.act_op 30 0 [0] A H kr (Or.inl kr) (k := 1) fun ac w A H => ?_
         exact SX.useD hJ24 kr kr ⟨SX.bb H 3, z39, A.sub _ kr, (H.pick [0, 1, 2, 3] _ kc kr).ro_pickT [0, 1, 2] 3 _ kr⟩
       ·
        refine SX.act_op 28 0 [0] A H kr (Or.inl kr) fun ac w A H => ?_
        exact SX.useD hJ37 kr kr ⟨SX.bb H 3, A.sub _ kr, (H.pick [0, 1, 2, 3] _ kc kr).ro_pickT [0, 1] 2 _ kr⟩
       ·
        refine SX.act_op 29 0 [0] A H kr (Or.inl kr) fun ac w A H => ?_
        exact SX.useD hJ35 kr kr ⟨SX.bb H 3, A.sub _ kr, (H.pick [0, 1, 2, 3] _ kc kr).ro_pickT [0, 1] 2 _ kr⟩
       ·
        refine SX.act_op 30 0 [0] A H kr (Or.inl kr) fun ac w A H => ?_
        exact SX.useD hJ32 kr kr ⟨SX.bb H 3, A.sub _ kr, (H.pick [0, 1, 2, 3] _ kc kr).ro_pickT [0, 1] 2 _ kr⟩
      ·
       refine SX.act_op 28 0 [0] A H kr (Or.inl kr) fun ac w A H => ?_
       refine SX.many 22 [29, 30] kr kr (SX.allC_cons ?_ (SX.allC_cons ?_ (SX.allC_cons ?_ SX.allC_nil)))
       ·
        refine SX.callGD_op 22 [0] A H (Way_calls a.hart a.kind s1 w H.nos_lt (H.fact' 0 (D.tlbF s1 a.hart.tlb.sets) kr)) kr kr (Or.inl kr) fun ac w A H => ?_
        exact SX.useD hJ37 kr kr ⟨SX.bb H 3, A.sub _ kr, (H.pick [0, 1, 2, 3] _ kc kr).ro_pickT [0, 1] 2 _ kr⟩
       ·
        refine SX.act_op 29 0 [0] A H kr (Or.inl kr) fun ac w A H => ?_
        exact SX.useD hJ36 kr kr ⟨SX.bb H 3, SX.bb H 4, A.sub _ kr, (H.pick [0, 1, 2, 3, 4] _ kc kr).ro_pickT [0, 1] 2 _ kr⟩
       ·
        refine SX.act_op 30 0 [0] A H kr (Or.inl kr) fun ac w A H => ?_
        exact SX.useD hJ33 kr kr ⟨SX.bb H 3, SX.bb H 4, A.sub _ kr, (H.pick [0, 1, 2, 3, 4] _ kc kr).ro_pickT [0, 1] 2 _ kr⟩
      ·
       refine SX.act_op 29 0 [0] A H kr (Or.inl kr) fun ac w A H => ?_
       refine SX.many 22 [28, 30] kr kr (SX.allC_cons ?_ (SX.allC_cons ?_ (SX.allC_cons ?_ SX.allC_nil)))
       ·
        refine SX.callGD_op 22 [0] A H (Way_calls a.hart a.kind s1 w H.nos_lt (H.fact' 0 (D.tlbF s1 a.hart.tlb.sets) kr)) kr kr (Or.inl kr) fun ac w A H => ?_
        exact SX.useD hJ35 kr kr ⟨SX.bb H 3, A.sub _ kr, (H.pick [0, 1, 2, 3] _ kc kr).ro_pickT [0, 1] 2 _ kr⟩
       ·
        refine SX.act_op 28 0 [0] A H kr (Or.inl kr) fun ac w A H => ?_
        exact SX.useD hJ36 kr kr ⟨SX.bb H 4, SX.bb H 3, A.sub _ kr, (H.pick [0, 1, 2, 4, 3] _ kc kr).ro_pickT [0, 1] 2 _ kr⟩
       ·
        refine SX.act_op 30 0 [0] A H kr (Or.inl kr) fun ac w A H => ?_
        exact SX.useD hJ34 kr kr ⟨SX.bb H 3, SX.bb H 4, A.sub _ kr, (H.pick [0, 1, 2, 3, 4] _ kc kr).ro_pickT [0, 1] 2 _ kr⟩
      ·
       refine SX.act_op 30 0 [0] A H kr (Or.inl kr) fun ac w A H => ?_
       refine SX.many 22 [28, 29] kr kr (SX.allC_cons ?_ (SX.allC_cons ?_ (SX.allC_cons ?_ SX.allC_nil)))
       ·
        refine SX.callGD_op 22 [0] A H (Way_calls a.hart a.kind s1 w H.nos_lt (H.fact' 0 (D.tlbF s1 a.hart.tlb.sets) kr)) kr kr (Or.inl kr) fun ac w A H => ?_
        exact SX.useD hJ32 kr kr ⟨SX.bb H 3, A.sub _ kr, (H.pick [0, 1, 2, 3] _ kc kr).ro_pickT [0, 1] 2 _ kr⟩
       ·
        refine SX.act_op 28 0 [0] A H kr (Or.inl kr) fun ac w A H => ?_
        exact SX.useD hJ33 kr kr ⟨SX.bb H 4, SX.bb H 3, A.sub _ kr, (H.pick [0, 1, 2, 4, 3] _ kc kr).ro_pickT [0, 1] 2 _ kr⟩
       ·
        refine SX.act_op 29 0 [0] A H kr (Or.inl kr) fun ac w A H => ?_
        exact SX.useD hJ34 kr kr ⟨SX.bb H 4, SX.bb H 3, A.sub _ kr, (H.pick [0, 1, 2, 4, 3] _ kc kr).ro_pickT [0, 1] 2 _ kr⟩
   refine SX.many 15 [21] kr kr (SX.allC_cons ?_ (SX.allC_cons ?_ SX.allC_nil))
   ·
    refine SX.callGD_op 15 [0] A H (tFind_calls a.hart.tlb a.hart.satp.asid a.addr s1 w H.nos_lt (H.fact' 0 (D.tlbF s1 a.hart.tlb.sets) kr) (hL.below H.below) (by assumption) ko) kr kr (Or.inl kr) fun ac w A H => SX.takes [0] [(16, none), (17, none), (18, none), (19, none), (20, none)] A H kr kd kr kr kr (Or.inl kr) fun ac A => SX.act 21 0 [0] A H kr kr kr (Or.inl kr) fun ac w A H => ?_
    exact SX.useD hJ1 kr kr ⟨SX.bb H 2, A.sub _ kr, (H.pick [0, 1, 2] _ kc kr).ro_pickT [0, 1] 2 _ kr⟩
   ·
    refine SX.act_op 21 0 [0] A H kr (Or.inl kr) fun ac w A H => SX.callGD 15 [0] A H (tFind_calls a.hart.tlb a.hart.satp.asid a.addr s1 w H.nos_lt (H.fact' 0 (D.tlbF s1 a.hart.tlb.sets) kr) (hL.below H.below) (by assumption) ko) kr kr kr kr (Or.inl kr) fun ac w A H => SX.takes [0] [(16, none), (17, none), (18, none), (19, none), (20, none)] A H kr kd kr kr kr (Or.inl kr) fun ac A => ?_
    exact SX.useD hJ1 kr kr ⟨SX.bb H 2, A.sub _ kr, (H.pick [0, 1, 2] _ kc kr).ro_pickT [0, 1] 2 _ kr⟩
  ·
   have A := A.re 24 (.bool (!(isN a.addr))) (.bool true) kr (by rw [h2]; rfl)
   refine Xt A (XS (SX.drawn 11 [0] kr A H fun w H => SX.takes [0] [(0, none), (1, none), (2, none), (3, some 0), (4, none), (5, none), (6, none), (7, some 0)] A H kr kd kr kr kr (Or.inl kr) fun ac A => SX.callGD 8 [0] A H (Page_calls a.kind a.addr w (hL.below H.below) (hk)) kr kr kr kr (Or.inl kr) fun ac w A H => SX.takes [0] [(9, none)] A H kr kd kr kr kr (Or.inl kr) fun ac A => SX.act 10 1 [0] A H kr kr kr (Or.inl kr) fun ac w A H => ?_))
   refine SX.doneD kr ?_ _
   refine XT (XW (XQ (XU ?_)))
   have hf : D.Acc.leads a = ⟨a, 0, ⟨true, causeN 2 a.kind, a.addr⟩⟩ := by rw [D.Acc.leads, if_neg (by simpa using h1), if_pos h2]
   rw [hf]
   have hf0 := H.fact' 0 (D.tlbF s1 a.hart.tlb.sets) kr
   have hf1 := H.fact' 1 (D.memF s2 a.mem.f) kr
   have H2 := H.ro_top 2 sl kr
   have H2 := H2.learn (D.memF s2 a.mem.f) hf1
   have H2 := H2.learn (D.tlbF s1 a.hart.tlb.sets) hf0
   refine SX.retW [0, 1] ((.tuple #[.int .u64 0, (D.Fault.enc (⟨true, causeN 2 a.kind, a.addr⟩ : D.Fault))])) A H kr kr kr ⟨_, rfl, s1, s2, ?_, H2.pick [0] [(BA, .cells (D.Acc.cs a s1 s2) 257 (0, 0))] kc kr⟩
   rfl
 ·
  have A := A.re 11 (.bool (!(decide (a.hart.satp.mode = 8)))) (.bool true) kr (by rw [h1]; rfl)
  refine Xt A (XS (XR (Xb [0, 0, 0, 0, 0, 0, 1] A H fun ac w A H => XD (XT (XW (XQ (XU ?_)))))))
  have hf : D.Acc.leads a = ⟨a, a.addr, D.Fault.zero⟩ := by rw [D.Acc.leads, if_pos (by simpa using h1)]
  rw [hf]
  have hf0 := H.fact' 0 (D.tlbF s1 a.hart.tlb.sets) kr
  have hf1 := H.fact' 1 (D.memF s2 a.mem.f) kr
  have H2 := H.ro_top 2 sl kr
  have H2 := H2.learn (D.memF s2 a.mem.f) hf1
  have H2 := H2.learn (D.tlbF s1 a.hart.tlb.sets) hf0
  refine SX.retW [0, 1] ((.tuple #[.int .u64 (((a.addr : Nat) : Int)), (D.Fault.enc (⟨false, 0, 0⟩ : D.Fault))])) A H kr kr kr ⟨_, rfl, s1, s2, ?_, H2.pick [0] [(BA, .cells (D.Acc.cs a s1 s2) 257 (0, 0))] kc kr⟩
  rfl
end Go.Proofs.YtfkmcdkncmapmaaGreatDoor
