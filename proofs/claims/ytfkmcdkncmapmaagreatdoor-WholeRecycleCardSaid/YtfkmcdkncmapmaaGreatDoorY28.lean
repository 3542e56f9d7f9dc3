/- Walks of functions, written by the session's own program wip/sx/sxgen.py; Lean checks them. -/
import Derived.Test.YtfkmcdkncmapmaaGreatDoorY02
import Derived.Test.YtfkmcdkncmapmaaGreatDoorY27
import Derived.Test.YtfkmcdkncmapmaaGreatDoorProg
import Derived.Test.YtfkmcdkncmapmaaGreatDoorY19
set_option linter.unusedVariables false
set_option linter.unusedSimpArgs false
set_option maxRecDepth 100000
set_option maxHeartbeats 2000000
namespace Go.Proofs.YtfkmcdkncmapmaaGreatDoor
open Go Go.RowKit
theorem if_ne {c : Bool} {e : Int} (h : ((if c = true then (0 : Int) else e) != 0) = true) : c = false := by cases c <;> simp_all
theorem if_eq {c : Bool} {e : Int} (he : e ≠ 0) (h : ((if c = true then (0 : Int) else e) != 0) = false) : c = true := by cases c <;> simp_all
theorem D.make_lt {n : Nat} {p : D.Perm} {g : Bool} (h : n < 18446744073709551616) : (D.Pte.make n p g).Lt := ⟨by show (0 : Nat) < _; decide, h, by show (0 : Nat) < _; decide⟩
theorem Map_calls (k : D.Kernel) (id : Int) (addr : Nat) (pa : Nat) (level : Nat) (p : D.Perm)  {no : List Nat} (s1 s2 s3 s4 : SX.Sl) (w0 : World) (hno : ∀ b ∈ no, b < w0.heap.size) (hs1 : (D.memF s1 k.mem.f).P w0 no) (hs2 : (D.tlbF s2 k.hart.tlb.sets).P w0 no) (hs3 : (D.spsF s3 k.spaces).P w0 no) (hs4 : (D.fnsF s4 k.fences).P w0 no) (hL : Ld w0) (hp : k.pool.Ok) (hms : k.mem.size ≤ 1099511627776) (hd : 0 ≤ k.conf.data ∧ k.conf.data ≤ 524288) (hsh : k.shared < 4503599627370495) (hrt : (k.sp id).root < 4503599627370495) (hw : level ≤ 2) (haddr : addr < 18446744073709551616) (hpa : pa < 18446744073709551616) : SX.Rets Tryz.prog 17 #[(D.Kernel.enc k s1 s2 s3 s4), .int .i64 id, .int .u64 (((addr : Nat) : Int)), .int .u64 (((pa : Nat) : Int)), .int .i64 (((level : Nat) : Int)), (D.Perm.enc p)] w0 (fun r_ w => ∃ y1 y2 y3 y4 : SX.Sl, r_ = (.tuple #[(D.Kernel.enc ((D.mapN k id addr pa level p).k) y1 y2 y3 y4), .int .i64 ((D.mapN k id addr pa level p).err)]) ∧ (D.memF y1 (((D.mapN k id addr pa level p).k).mem.f)).P w no ∧ (D.tlbF y2 (((D.mapN k id addr pa level p).k).hart.tlb.sets)).P w no ∧ (D.spsF y3 (((D.mapN k id addr pa level p).k).spaces)).P w no ∧ (D.fnsF y4 (((D.mapN k id addr pa level p).k).fences)).P w no) := by
 refine SX.enterN (args := [(D.Kernel.enc k s1 s2 s3 s4), .int .i64 id, .int .u64 (((addr : Nat) : Int)), .int .u64 (((pa : Nat) : Int)), .int .i64 (((level : Nat) : Int)), (D.Perm.enc p)]) (hno := hno) 101 Tryz.func17 rfl kr fun ac A H => ?_
 have H := H.known (D.memF s1 k.mem.f) hs1
 have H := H.known (D.tlbF s2 k.hart.tlb.sets) hs2
 have H := H.known (D.spsF s3 k.spaces) hs3
 have H := H.known (D.fnsF s4 k.fences) hs4
 have hwo := D.where_ok (k := k) (id := id) (addr := addr) (level := ((level : Nat) : Int)) hsh hrt
 refine XS (XR (Xb [0, 0, 0, 0, 0, 0, 0] A H fun ac w A H => XD (XT (XS (XR (Xb [0, 0, 1, 3] A H fun ac w A H => Xc A H (Where_calls k id addr ((level : Nat) : Int) s1 s2 s3 s4 w H.nos_lt (H.fact' 3 (D.memF s1 k.mem.f) kr) (H.fact' 2 (D.tlbF s2 k.hart.tlb.sets) kr) (H.fact' 1 (D.spsF s3 k.spaces) kr) (H.fact' 0 (D.fnsF s4 k.fences) kr) (hL.below H.below) ko) fun ac w A H => Xb [0, 0, 0, 0, 0, 0, 6, 7, 0] A H fun ac w A H => XD (XT (XS (XS (XR (Xb [0, 0] A H fun ac w A H => XD (XT ?_))))))))))))
 refine Xs (((D.whereN k id addr ((level : Nat) : Int)).err) != 0) (fun h1 => ?_) fun h1 => ?_
 ·
  have A := A.rb 36 h1
  have h1p : (D.whereN k id addr ((level : Nat) : Int)).err ≠ 0 := kp h1
  refine Xt A (XS (XR (Xb [0, 0, 5, 0] A H fun ac w A H => XD (XT (XW (XU (Xr [5, 0] ((.tuple #[(D.Kernel.enc k s1 s2 s3 s4), .int .i64 ((D.whereN k id addr ((level : Nat) : Int)).err)])) A H ?_)))))))
  have hf : D.mapN k id addr pa level p = ⟨k, (D.whereN k id addr ((level : Nat) : Int)).err⟩ := by rw [D.mapN, if_pos (by simpa using h1)]
  refine ⟨s1, s2, s3, s4, ?_, (by rw [hf]; exact (H.out 3 (D.memF s1 k.mem.f) kr)), (by rw [hf]; exact (H.out 2 (D.tlbF s2 k.hart.tlb.sets) kr)), (by rw [hf]; exact (H.out 1 (D.spsF s3 k.spaces) kr)), (by rw [hf]; exact (H.out 0 (D.fnsF s4 k.fences) kr))⟩
  rw [hf]
  all_goals rfl
 ·
  have A := A.rb 36 h1
  have h1p : ¬ ((D.whereN k id addr ((level : Nat) : Int)).err ≠ 0) := kp h1
  refine Xf A (XK (XT (XS (SX.drawn 11 [0, 3] kr A H fun w H => SX.takes [0, 3] [(0, none), (1, none), (2, some 0), (3, none)] A H kr kd kr kr kr (Or.inl kr) fun ac A => ?_))))
  have A := A.re 42 (.int .u64 (IntKind.u64.wrap (k.conf.data))) (.int .u64 (((k.conf.data.toNat : Nat) : Int))) kr (SX.u_toNat _ ko ko)
  refine SX.takes [0, 3] [(4, none)] A H kr kd kr kr kr (Or.inl kr) fun ac A => ?_
  have A := A.re 43 (.int .u64 (IntKind.u64.wrap (((k.conf.data.toNat : Nat) : Int) * 4096))) (.int .u64 ((((k.conf.data.toNat * 4096) : Nat) : Int))) kr (SX.u_mul _ 4096 ko)
  refine SX.takes [0, 3] [(5, some 1)] A H kr kd kr kr kr (Or.inl kr) fun ac A => ?_
  let B0 := SX.bb H 0
  let B1 := SX.bb H 1
  let B2 := SX.bb H 2
  let B3 := SX.bb H 3
  let B4 := SX.bb H 4
  let B5 := SX.bb H 5
  let B6 := SX.bb H 6
  let B7 := SX.bb H 7
  refine SX.joinD (fun ac w => ∃ B8 B9 : Nat, SX.Agrees 101 ac [(1, .int .i64 id), (6, .pointer (some ⟨B0, 0, none⟩)), (8, .pointer (some ⟨B1, 0, none⟩)), (9, .pointer (some ⟨B2, 0, none⟩)), (10, .pointer (some ⟨B3, 0, none⟩)), (11, .pointer (some ⟨B4, 0, none⟩)), (12, .pointer (some ⟨B5, 0, none⟩)), (13, .int .i64 0), (14, .pointer (some ⟨B6, 0, none⟩)), (15, .pointer (some ⟨B7, 0, none⟩)), (17, .pointer (some ⟨B8, 0, none⟩)), (18, .pointer (some ⟨B9, 0, none⟩)), (43, .int .u64 ((((k.conf.data.toNat * 4096) : Nat) : Int))), (45, .int .u64 (((sizeN ((level : Nat) : Int) : Nat) : Int)))] ∧ SX.Own w0 w [(B0, .cells (D.Kernel.cs k s1 s2 s3 s4) 45 (0, 0)), (B1, .cells #[.int .u64 (((addr : Nat) : Int))] 27 (0, 0)), (B2, .cells #[.int .u64 (((pa : Nat) : Int))] 27 (0, 0)), (B3, .cells #[.int .i64 (((level : Nat) : Int))] 3 (0, 0)), (B4, .cells #[.bool p.r, .bool p.w, .bool p.x, .bool p.u] 66 (0, 0)), (B5, .cells (D.Kernel.cs (⟨(⟨0, 0, 0, 0⟩ : D.Conf), (⟨0, (fun _ => 0)⟩ : D.Mem), (⟨(⟨[]⟩ : D.Tlb), (⟨0, 0, 0⟩ : D.Satp), 0, false, false, 0⟩ : D.Hart), (⟨0, 0, 0⟩ : D.Pool), (⟨0, 0, 0⟩ : D.Asids), [], 0, 0, []⟩ : D.Kernel) SX.Sl.nil SX.Sl.nil SX.Sl.nil SX.Sl.nil) 45 (0, 0)), (B6, .cells #[.int .u64 ((((D.whereN k id addr ((level : Nat) : Int)).top : Nat) : Int))] 27 (0, 0)), (B7, .cells #[.int .i64 ((((D.whereN k id addr ((level : Nat) : Int)).lv : Nat) : Int))] 3 (0, 0)), (B8, .cells #[.int .u64 0] 27 (0, 0)), (B9, .cells #[.int .u64 0] 27 (0, 0))] ⟨[(D.fnsF s4 k.fences), (D.spsF s3 k.spaces), (D.tlbF s2 k.hart.tlb.sets), (D.memF s1 k.mem.f)], (SX.roOf H).fb, (SX.roOf H).no⟩) 2 (SX.msk 11 511) ?_ (fun hJ1 => ?_)
  · rintro ac w ⟨B8, B9, A, H⟩
    refine SX.act 9 8 [0, 3] A H kr kr kr (Or.inl kr) fun ac w A H => SX.act 10 9 [0, 3] A H kr kr kr (Or.inl kr) fun ac w A H => ?_
    refine SX.doneD kr ?_ _
    refine XT (XS (XR (Xb [0, 0] A H fun ac w A H => XD (XT (XS (XS (XR (Xb [0, 0, 0, 0, 0, 0, 0, 0, 0, 0, 0] A H fun ac w A H => XD (XT (XB (wp_loop_rounds 5 (XO (XS (XR (Xb [0] A H fun ac w A H => XD (XT (XS (Xt A (XK (XT (XS (XB (XS (XR (Xb [0, 10, 0, 11] A H fun ac w A H => XD (XT (XS (XR (Xb [0, 11] A H fun ac w A H => Xc A H (map2_calls pa (sizeN ((level : Nat) : Int)) w (SX.boxB _ 2) 27 (0, 0) (SX.boxHas H 2 #[.int .u64 (((pa : Nat) : Int))] 27 kr kr) (SX.boxB _ 9) 27 (0, 0) (SX.boxHas H 9 #[.int .u64 (((sizeN ((level : Nat) : Int) : Nat) : Int))] 27 kr kr)) fun ac w A H => Xb [0] A H fun ac w A H => XD (XT (XS (XR (Xb [0, 0] A H fun ac w A H => XD (XT ?_))))))))))))))))))))))))))))))))))
    refine Xs ((if even pa (sizeN ((level : Nat) : Int)) then (0 : Int) else 2) != 0) (fun h2 => ?_) fun h2 => ?_
    ·
     have A := A.rb 65 h2
     have h2p : (if even pa (sizeN ((level : Nat) : Int)) then (0 : Int) else 2) ≠ 0 := kp h2
     refine Xt A (XS (XR (Xb [0, 0, 5, 0] A H fun ac w A H => XD (XT (XW (XQ (XU (XU (XQ (XU (Xr [5, 0] ((.tuple #[(D.Kernel.enc k s1 s2 s3 s4), .int .i64 (if even pa (sizeN ((level : Nat) : Int)) then (0 : Int) else 2)])) A H ?_)))))))))))
     have hc := if_ne h2
     have hf : D.mapN k id addr pa level p = ⟨k, 2⟩ := by rw [D.mapN, if_neg (by simpa using h1), if_pos hc]
     refine ⟨s1, s2, s3, s4, ?_, (by rw [hf]; exact (H.out 3 (D.memF s1 k.mem.f) kr)), (by rw [hf]; exact (H.out 2 (D.tlbF s2 k.hart.tlb.sets) kr)), (by rw [hf]; exact (H.out 1 (D.spsF s3 k.spaces) kr)), (by rw [hf]; exact (H.out 0 (D.fnsF s4 k.fences) kr))⟩
     rw [hf]
     rw [hc]
     all_goals rfl
    ·
     have A := A.rb 65 h2
     have h2p : ¬ ((if even pa (sizeN ((level : Nat) : Int)) then (0 : Int) else 2) ≠ 0) := kp h2
     refine Xf A (XK (XN (XT (XR (Xb [0, 0] A H fun ac w A H => XD (XT (XO (XS (XR (Xb [0] A H fun ac w A H => XD (XT (XS (Xt A (XK (XT (XS (XB (XS (XR (Xb [0, 10, 0, 12] A H fun ac w A H => XD (XT (XS (XR (Xb [0, 12] A H fun ac w A H => Xc A H (map3_calls pa (k.conf.data.toNat * 4096) (sizeN ((level : Nat) : Int)) w (SX.boxB _ 2) 27 (0, 0) (SX.boxHas H 2 #[.int .u64 (((pa : Nat) : Int))] 27 kr kr) (SX.boxB _ 8) 27 (0, 0) (SX.boxHas H 8 #[.int .u64 ((((k.conf.data.toNat * 4096) : Nat) : Int))] 27 kr kr) (SX.boxB _ 9) 27 (0, 0) (SX.boxHas H 9 #[.int .u64 (((sizeN ((level : Nat) : Int) : Nat) : Int))] 27 kr kr) ko) fun ac w A H => Xb [0] A H fun ac w A H => XD (XT (XS (XR (Xb [0, 0] A H fun ac w A H => XD (XT ?_)))))))))))))))))))))))))))))
     refine Xs ((if (decide (pa < (k.conf.data.toNat * 4096)) && decide ((sizeN ((level : Nat) : Int)) ≤ (k.conf.data.toNat * 4096) - pa)) then (0 : Int) else 3) != 0) (fun h3 => ?_) fun h3 => ?_
     ·
      have A := A.rb 65 h3
      have h3p : (if (decide (pa < (k.conf.data.toNat * 4096)) && decide ((sizeN ((level : Nat) : Int)) ≤ (k.conf.data.toNat * 4096) - pa)) then (0 : Int) else 3) ≠ 0 := kp h3
      refine Xt A (XS (XR (Xb [0, 0, 5, 0] A H fun ac w A H => XD (XT (XW (XQ (XU (XU (XQ (XU (Xr [5, 0] ((.tuple #[(D.Kernel.enc k s1 s2 s3 s4), .int .i64 (if (decide (pa < (k.conf.data.toNat * 4096)) && decide ((sizeN ((level : Nat) : Int)) ≤ (k.conf.data.toNat * 4096) - pa)) then (0 : Int) else 3)])) A H ?_)))))))))))
      have hq0 := if_eq kc h2
      have hc := if_ne h3
      have hf : D.mapN k id addr pa level p = ⟨k, 3⟩ := by rw [D.mapN, if_neg (by simpa using h1), if_neg (fun hh => absurd (hq0.symm.trans hh) kc), if_pos hc]
      refine ⟨s1, s2, s3, s4, ?_, (by rw [hf]; exact (H.out 3 (D.memF s1 k.mem.f) kr)), (by rw [hf]; exact (H.out 2 (D.tlbF s2 k.hart.tlb.sets) kr)), (by rw [hf]; exact (H.out 1 (D.spsF s3 k.spaces) kr)), (by rw [hf]; exact (H.out 0 (D.fnsF s4 k.fences) kr))⟩
      rw [hf]
      rw [hc]
      all_goals rfl
     ·
      have A := A.rb 65 h3
      have h3p : ¬ ((if (decide (pa < (k.conf.data.toNat * 4096)) && decide ((sizeN ((level : Nat) : Int)) ≤ (k.conf.data.toNat * 4096) - pa)) then (0 : Int) else 3) ≠ 0) := kp h3
      refine Xf A (XK (XN (XT (XR (Xb [0, 0] A H fun ac w A H => XD (XT (XO (XS (XR (Xb [0] A H fun ac w A H => XD (XT (XS (Xt A (XK (XT (XS (XB (XS (XR (Xb [0, 10, 0, 13] A H fun ac w A H => XD (XT (XS (XR (Xb [0, 13] A H fun ac w A H => Xc A H (map4_calls p w (SX.boxB _ 4) 66 (0, 0) (SX.boxHas H 4 #[.bool p.r, .bool p.w, .bool p.x, .bool p.u] 66 kr kr)) fun ac w A H => Xb [0] A H fun ac w A H => XD (XT (XS (XR (Xb [0, 0] A H fun ac w A H => XD (XT ?_)))))))))))))))))))))))))))))
      refine Xs ((if p.may then (0 : Int) else 5) != 0) (fun h4 => ?_) fun h4 => ?_
      ·
       have A := A.rb 65 h4
       have h4p : (if p.may then (0 : Int) else 5) ≠ 0 := kp h4
       refine Xt A (XS (XR (Xb [0, 0, 5, 0] A H fun ac w A H => XD (XT (XW (XQ (XU (XU (XQ (XU (Xr [5, 0] ((.tuple #[(D.Kernel.enc k s1 s2 s3 s4), .int .i64 (if p.may then (0 : Int) else 5)])) A H ?_)))))))))))
       have hq0 := if_eq kc h2
       have hq1 := if_eq kc h3
       have hc := if_ne h4
       have hf : D.mapN k id addr pa level p = ⟨k, 5⟩ := by rw [D.mapN, if_neg (by simpa using h1), if_neg (fun hh => absurd (hq0.symm.trans hh) kc), if_neg (fun hh => absurd (hq1.symm.trans hh) kc), if_pos hc]
       refine ⟨s1, s2, s3, s4, ?_, (by rw [hf]; exact (H.out 3 (D.memF s1 k.mem.f) kr)), (by rw [hf]; exact (H.out 2 (D.tlbF s2 k.hart.tlb.sets) kr)), (by rw [hf]; exact (H.out 1 (D.spsF s3 k.spaces) kr)), (by rw [hf]; exact (H.out 0 (D.fnsF s4 k.fences) kr))⟩
       rw [hf]
       rw [hc]
       all_goals rfl
      ·
       have A := A.rb 65 h4
       have h4p : ¬ ((if p.may then (0 : Int) else 5) ≠ 0) := kp h4
       refine Xf A (XK (XN (XT (XR (Xb [0, 0] A H fun ac w A H => XD (XT (XO (XS (XR (Xb [0] A H fun ac w A H => XD (XT (XS (Xt A (XK (XT (XS (XB (XS (XR (Xb [0, 10, 0, 14] A H fun ac w A H => XD (XT (XS (XR (Xb [0, 14] A H fun ac w A H => Xc A H (map1_calls k ((D.whereN k id addr ((level : Nat) : Int)).top) ((D.whereN k id addr ((level : Nat) : Int)).lv) addr level s1 s2 s3 s4 w H.nos_lt (H.fact' 3 (D.memF s1 k.mem.f) kr) (H.fact' 2 (D.tlbF s2 k.hart.tlb.sets) kr) (H.fact' 1 (D.spsF s3 k.spaces) kr) (H.fact' 0 (D.fnsF s4 k.fences) kr) (hL.below H.below) (SX.boxB _ 0) 45 (0, 0) (SX.boxHas H 0 #[.int .i64 (k.conf.data), .int .i64 (k.conf.pool), .int .i64 (k.conf.asids), .int .i64 (k.conf.sets), .int .u64 (((k.mem.size : Nat) : Int)), .slice s1.a s1.n s1.c, .slice s2.a s2.n s2.c, .int .u64 (((k.hart.satp.mode : Nat) : Int)), .int .u64 (((k.hart.satp.asid : Nat) : Int)), .int .u64 (((k.hart.satp.ppn : Nat) : Int)), .int .i64 (k.hart.priv), .bool k.hart.sum, .bool k.hart.mxr, .int .i64 (k.hart.victim), .int .u64 (((k.pool.base : Nat) : Int)), .int .i64 (k.pool.many), .int .u64 (((k.pool.free : Nat) : Int)), .int .i64 (k.asids.many), .int .u64 (((k.asids.free : Nat) : Int)), .int .u64 (((k.asids.owned : Nat) : Int)), .slice s3.a s3.n s3.c, .int .i64 (k.now), .int .u64 (((k.shared : Nat) : Int)), .slice s4.a s4.n s4.c] 45 kr kr) (SX.boxB _ 6) 27 (0, 0) (SX.boxHas H 6 #[.int .u64 ((((D.whereN k id addr ((level : Nat) : Int)).top : Nat) : Int))] 27 kr kr) (SX.boxB _ 7) 3 (0, 0) (SX.boxHas H 7 #[.int .i64 ((((D.whereN k id addr ((level : Nat) : Int)).lv : Nat) : Int))] 3 kr kr) (SX.boxB _ 1) 27 (0, 0) (SX.boxHas H 1 #[.int .u64 (((addr : Nat) : Int))] 27 kr kr) (SX.boxB _ 3) 3 (0, 0) (SX.boxHas H 3 #[.int .i64 (((level : Nat) : Int))] 3 kr kr) (hwo.1) (hwo.2) (hw) ko) fun ac w A H => Xb [0] A H fun ac w A H => XD (XT (XS (XR (Xb [0, 0] A H fun ac w A H => XD (XT ?_)))))))))))))))))))))))))))))
       refine Xs ((if (!(D.reach k.mem addr level ((D.whereN k id addr ((level : Nat) : Int)).lv) ((D.whereN k id addr ((level : Nat) : Int)).top)).pte.v) then (0 : Int) else 6) != 0) (fun h5 => ?_) fun h5 => ?_
       ·
        have A := A.rb 65 h5
        have h5p : (if (!(D.reach k.mem addr level ((D.whereN k id addr ((level : Nat) : Int)).lv) ((D.whereN k id addr ((level : Nat) : Int)).top)).pte.v) then (0 : Int) else 6) ≠ 0 := kp h5
        refine Xt A (XS (XR (Xb [0, 0, 5, 0] A H fun ac w A H => XD (XT (XW (XQ (XU (XU (XQ (XU (Xr [5, 0] ((.tuple #[(D.Kernel.enc k s1 s2 s3 s4), .int .i64 (if (!(D.reach k.mem addr level ((D.whereN k id addr ((level : Nat) : Int)).lv) ((D.whereN k id addr ((level : Nat) : Int)).top)).pte.v) then (0 : Int) else 6)])) A H ?_)))))))))))
        have hq0 := if_eq kc h2
        have hq1 := if_eq kc h3
        have hq2 := if_eq kc h4
        have hc := if_ne h5
        have hf : D.mapN k id addr pa level p = ⟨k, 6⟩ := by rw [D.mapN, if_neg (by simpa using h1), if_neg (fun hh => absurd (hq0.symm.trans hh) kc), if_neg (fun hh => absurd (hq1.symm.trans hh) kc), if_neg (fun hh => absurd (hq2.symm.trans hh) kc), if_pos (by simpa using hc)]
        refine ⟨s1, s2, s3, s4, ?_, (by rw [hf]; exact (H.out 3 (D.memF s1 k.mem.f) kr)), (by rw [hf]; exact (H.out 2 (D.tlbF s2 k.hart.tlb.sets) kr)), (by rw [hf]; exact (H.out 1 (D.spsF s3 k.spaces) kr)), (by rw [hf]; exact (H.out 0 (D.fnsF s4 k.fences) kr))⟩
        rw [hf]
        rw [hc]
        all_goals rfl
       ·
        have A := A.rb 65 h5
        have h5p : ¬ ((if (!(D.reach k.mem addr level ((D.whereN k id addr ((level : Nat) : Int)).lv) ((D.whereN k id addr ((level : Nat) : Int)).top)).pte.v) then (0 : Int) else 6) ≠ 0) := kp h5
        refine Xf A (XK (XN (XT (XR (Xb [0, 0] A H fun ac w A H => XD (XT (XO (XS (XR (Xb [0] A H fun ac w A H => XD (XT (XS (Xf A (XI (XX (XX (XE (XT (XS (XR (Xb [0, 0, 0, 0, 6, 7, 1, 3] A H fun ac w A H => SX.call A H (Down_calls k.mem k.pool ((D.whereN k id addr ((level : Nat) : Int)).top) ((D.whereN k id addr ((level : Nat) : Int)).lv) addr level s1 w H.nos_lt (H.fact' 3 (D.memF s1 k.mem.f) kr) (hL.below H.below) (hp) (hwo.1) (hwo.2) (hw) ko (hms)) kr kr ?_)))))))))))))))))))))
        rintro _ ac w ⟨z5, rfl, hz5⟩ A H
        have H := H.learn (D.memF z5 (((D.downN k.mem k.pool ((D.whereN k id addr ((level : Nat) : Int)).top) ((D.whereN k id addr ((level : Nat) : Int)).lv) addr level).mem).f)) hz5
        refine Xb [0, 0, 0, 0, 0, 0, 0, 0, 15, 16, 17, 0] A H fun ac w A H => XD (XT (XS (XS (XR (Xb [0, 0] A H fun ac w A H => XD (XT ?_))))))
        refine Xs (((D.downN k.mem k.pool ((D.whereN k id addr ((level : Nat) : Int)).top) ((D.whereN k id addr ((level : Nat) : Int)).lv) addr level).err) != 0) (fun h6 => ?_) fun h6 => ?_
        ·
         have A := A.rb 84 h6
         have h6p : (D.downN k.mem k.pool ((D.whereN k id addr ((level : Nat) : Int)).top) ((D.whereN k id addr ((level : Nat) : Int)).lv) addr level).err ≠ 0 := kp h6
         refine Xt A (XS (XR (Xb [0, 0, 5, 0] A H fun ac w A H => XD (XT (XW (XU (Xr [5, 0] ((.tuple #[(D.Kernel.enc k s1 s2 s3 s4), .int .i64 ((D.downN k.mem k.pool ((D.whereN k id addr ((level : Nat) : Int)).top) ((D.whereN k id addr ((level : Nat) : Int)).lv) addr level).err)])) A H ?_)))))))
         have hq0 := if_eq kc h2
         have hq1 := if_eq kc h3
         have hq2 := if_eq kc h4
         have hq3 := if_eq kc h5
         have hf : D.mapN k id addr pa level p = ⟨k, (k.down id addr level).err⟩ := by rw [D.mapN, if_neg (by simpa using h1), if_neg (fun hh => absurd (hq0.symm.trans hh) kc), if_neg (fun hh => absurd (hq1.symm.trans hh) kc), if_neg (fun hh => absurd (hq2.symm.trans hh) kc), if_neg (fun hh => by rw [hh] at hq3; cases hq3), if_pos (by have hz := h6; simp only [bne_iff_ne, ne_eq] at hz; exact hz)]
         refine ⟨s1, s2, s3, s4, ?_, (by rw [hf]; exact (H.out 4 (D.memF s1 k.mem.f) kr)), (by rw [hf]; exact (H.out 3 (D.tlbF s2 k.hart.tlb.sets) kr)), (by rw [hf]; exact (H.out 2 (D.spsF s3 k.spaces) kr)), (by rw [hf]; exact (H.out 1 (D.fnsF s4 k.fences) kr))⟩
         rw [hf]
         all_goals rfl
        ·
         have A := A.rb 84 h6
         have h6p : ¬ ((D.downN k.mem k.pool ((D.whereN k id addr ((level : Nat) : Int)).top) ((D.whereN k id addr ((level : Nat) : Int)).lv) addr level).err ≠ 0) := kp h6
         refine Xf A (XK (XT (XS (SX.drawn 15 [1, 2, 4, 15, 16, 17] kr A H fun w H => SX.takes [1, 2, 4, 15, 16, 17] [(0, some 3), (1, some 5), (2, some 0), (3, some 1), (4, none)] A H kr kd kr kr kr (Or.inl kr) fun ac A => ?_))))
         have A := A.re 91 (.int .u64 (IntKind.u64.wrap (Int.tdiv ((pa : Nat) : Int) 4096))) (.int .u64 ((((pa / 4096) : Nat) : Int))) kr (SX.u_quo pa 4096 ko)
         refine SX.takes [1, 2, 4, 15, 16, 17] [(5, some 2), (6, none), (7, none), (10, some 4)] A H kr kd kr kr kr (Or.inl kr) fun ac A => SX.callGD 8 [1, 2, 4, 15, 16, 17] A H (Make_calls (pa / 4096) p (id == (-1)) w) kr kr kr kr (Or.inl kr) fun ac w A H => SX.callD 9 [1, 2, 4, 15, 16, 17] A H (With_calls ((D.downN k.mem k.pool ((D.whereN k id addr ((level : Nat) : Int)).top) ((D.whereN k id addr ((level : Nat) : Int)).lv) addr level).mem) ((D.downN k.mem k.pool ((D.whereN k id addr ((level : Nat) : Int)).top) ((D.whereN k id addr ((level : Nat) : Int)).lv) addr level).spot) addr (D.Pte.make (pa / 4096) p (id == (-1))) z5 w H.nos_lt (H.fact' 0 (D.memF z5 (((D.downN k.mem k.pool ((D.whereN k id addr ((level : Nat) : Int)).top) ((D.whereN k id addr ((level : Nat) : Int)).lv) addr level).mem).f)) kr) ko ((D.down_inv k.mem k.pool _ _ addr level hwo.1 hwo.2 (k.pool.free + 1) k.mem k.pool rfl hp hp).2.1) ((D.down_inv k.mem k.pool _ _ addr level hwo.1 hwo.2 (k.pool.free + 1) k.mem k.pool rfl hp hp).1) (D.make_lt ko) (by rw [show (D.downN k.mem k.pool (D.whereN k id addr ((level : Nat) : Int)).top (D.whereN k id addr ((level : Nat) : Int)).lv addr level).mem.size = k.mem.size from (D.down_inv k.mem k.pool _ _ addr level hwo.1 hwo.2 (k.pool.free + 1) k.mem k.pool rfl hp hp).2.2.1]; exact hms)) kr kr kr kr (Or.inl kr) ?_
         rintro _ ac w ⟨z6, rfl, hz6⟩ A H
         have H := H.learn (D.memF z6 ((D.withM ((D.downN k.mem k.pool ((D.whereN k id addr ((level : Nat) : Int)).top) ((D.whereN k id addr ((level : Nat) : Int)).lv) addr level).mem) ((D.downN k.mem k.pool ((D.whereN k id addr ((level : Nat) : Int)).top) ((D.whereN k id addr ((level : Nat) : Int)).lv) addr level).spot) addr (D.Pte.make (pa / 4096) p (id == (-1)))).f)) hz6
         refine SX.takes [1, 2, 4, 15, 16, 17] [(11, none)] A H kr kd kr kr kr (Or.inl kr) (k := 1) fun ac A => SX.act 12 0 [1, 2, 4, 15, 16, 17] A H kr kr kr (Or.inl kr) (k := 1) fun ac w A H => SX.takes [1, 2, 4, 15, 16, 17] [(13, none)] A H kr kd kr kr kr (Or.inl kr) (k := 1) fun ac A => SX.act 14 0 [1, 2, 4, 15, 16, 17] A H kr kr kr (Or.inl kr) (k := 1) fun ac w A H => ?_
         refine SX.doneD kr ?_ _
         refine XT (XS (XR (Xb [0, 5, 0] A H fun ac w A H => XD (XT (XW (Xr [5, 0] ((.tuple #[(D.Kernel.enc (⟨k.conf, (D.withM ((D.downN k.mem k.pool ((D.whereN k id addr ((level : Nat) : Int)).top) ((D.whereN k id addr ((level : Nat) : Int)).lv) addr level).mem) ((D.downN k.mem k.pool ((D.whereN k id addr ((level : Nat) : Int)).top) ((D.whereN k id addr ((level : Nat) : Int)).lv) addr level).spot) addr (D.Pte.make (pa / 4096) p (id == (-1)))), k.hart, ((D.downN k.mem k.pool ((D.whereN k id addr ((level : Nat) : Int)).top) ((D.whereN k id addr ((level : Nat) : Int)).lv) addr level).pool), k.asids, k.spaces, k.now, k.shared, k.fences⟩ : D.Kernel) z6 s2 s3 s4), .int .i64 0])) A H ?_))))))
         have hq0 := if_eq kc h2
         have hq1 := if_eq kc h3
         have hq2 := if_eq kc h4
         have hq3 := if_eq kc h5
         have hf : D.mapN k id addr pa level p = ⟨k.withMP (D.withM (k.down id addr level).mem (k.down id addr level).spot addr (D.Pte.make (pa / 4096) p (id == (-1)))) (k.down id addr level).pool, 0⟩ := by rw [D.mapN, if_neg (by simpa using h1), if_neg (fun hh => absurd (hq0.symm.trans hh) kc), if_neg (fun hh => absurd (hq1.symm.trans hh) kc), if_neg (fun hh => absurd (hq2.symm.trans hh) kc), if_neg (fun hh => by rw [hh] at hq3; cases hq3), if_neg (by have hz := h6; simp only [bne_eq_false_iff_eq] at hz; exact fun hh => hh hz)]
         refine ⟨z6, s2, s3, s4, ?_, (by rw [hf]; exact (H.out 0 (D.memF z6 ((D.withM ((D.downN k.mem k.pool ((D.whereN k id addr ((level : Nat) : Int)).top) ((D.whereN k id addr ((level : Nat) : Int)).lv) addr level).mem) ((D.downN k.mem k.pool ((D.whereN k id addr ((level : Nat) : Int)).top) ((D.whereN k id addr ((level : Nat) : Int)).lv) addr level).spot) addr (D.Pte.make (pa / 4096) p (id == (-1)))).f)) kr)), (by rw [hf]; exact (H.out 4 (D.tlbF s2 k.hart.tlb.sets) kr)), (by rw [hf]; exact (H.out 3 (D.spsF s3 k.spaces) kr)), (by rw [hf]; exact (H.out 2 (D.fnsF s4 k.fences) kr))⟩
         rw [hf]
         all_goals rfl
  refine SX.joinD (fun ac w => ∃ B8 : Nat, SX.Agrees 101 ac [(1, .int .i64 id), (6, .pointer (some ⟨B0, 0, none⟩)), (8, .pointer (some ⟨B1, 0, none⟩)), (9, .pointer (some ⟨B2, 0, none⟩)), (10, .pointer (some ⟨B3, 0, none⟩)), (11, .pointer (some ⟨B4, 0, none⟩)), (12, .pointer (some ⟨B5, 0, none⟩)), (13, .int .i64 0), (14, .pointer (some ⟨B6, 0, none⟩)), (15, .pointer (some ⟨B7, 0, none⟩)), (18, .pointer (some ⟨B8, 0, none⟩)), (43, .int .u64 ((((k.conf.data.toNat * 4096) : Nat) : Int))), (45, .int .u64 (((sizeN ((level : Nat) : Int) : Nat) : Int)))] ∧ SX.Own w0 w [(B0, .cells (D.Kernel.cs k s1 s2 s3 s4) 45 (0, 0)), (B1, .cells #[.int .u64 (((addr : Nat) : Int))] 27 (0, 0)), (B2, .cells #[.int .u64 (((pa : Nat) : Int))] 27 (0, 0)), (B3, .cells #[.int .i64 (((level : Nat) : Int))] 3 (0, 0)), (B4, .cells #[.bool p.r, .bool p.w, .bool p.x, .bool p.u] 66 (0, 0)), (B5, .cells (D.Kernel.cs (⟨(⟨0, 0, 0, 0⟩ : D.Conf), (⟨0, (fun _ => 0)⟩ : D.Mem), (⟨(⟨[]⟩ : D.Tlb), (⟨0, 0, 0⟩ : D.Satp), 0, false, false, 0⟩ : D.Hart), (⟨0, 0, 0⟩ : D.Pool), (⟨0, 0, 0⟩ : D.Asids), [], 0, 0, []⟩ : D.Kernel) SX.Sl.nil SX.Sl.nil SX.Sl.nil SX.Sl.nil) 45 (0, 0)), (B6, .cells #[.int .u64 ((((D.whereN k id addr ((level : Nat) : Int)).top : Nat) : Int))] 27 (0, 0)), (B7, .cells #[.int .i64 ((((D.whereN k id addr ((level : Nat) : Int)).lv : Nat) : Int))] 3 (0, 0)), (B8, .cells #[.int .u64 0] 27 (0, 0))] ⟨[(D.fnsF s4 k.fences), (D.spsF s3 k.spaces), (D.tlbF s2 k.hart.tlb.sets), (D.memF s1 k.mem.f)], (SX.roOf H).fb, (SX.roOf H).no⟩) 3 (SX.msk 11 383) ?_ (fun hJ2 => ?_)
  · rintro ac w ⟨B8, A, H⟩
    refine SX.act 7 0 [0, 3] A H kr kr kr (Or.inl kr) fun ac w A H => ?_
    exact SX.useD hJ1 kr kr ⟨SX.bb H 9, SX.bb H 8, A.sub _ kr, (H.pick [0, 1, 2, 3, 4, 5, 6, 7, 9, 8] _ kc kr).ro_pick [0, 1, 2, 3] _ kr⟩
  refine SX.joinD (fun ac w => ∃ B8 B9 : Nat, SX.Agrees 101 ac [(1, .int .i64 id), (6, .pointer (some ⟨B0, 0, none⟩)), (8, .pointer (some ⟨B1, 0, none⟩)), (9, .pointer (some ⟨B2, 0, none⟩)), (10, .pointer (some ⟨B3, 0, none⟩)), (11, .pointer (some ⟨B4, 0, none⟩)), (12, .pointer (some ⟨B5, 0, none⟩)), (13, .int .i64 0), (14, .pointer (some ⟨B6, 0, none⟩)), (15, .pointer (some ⟨B7, 0, none⟩)), (17, .pointer (some ⟨B8, 0, none⟩)), (18, .pointer (some ⟨B9, 0, none⟩)), (43, .int .u64 ((((k.conf.data.toNat * 4096) : Nat) : Int))), (44, .int .i64 (((level : Nat) : Int)))] ∧ SX.Own w0 w [(B0, .cells (D.Kernel.cs k s1 s2 s3 s4) 45 (0, 0)), (B1, .cells #[.int .u64 (((addr : Nat) : Int))] 27 (0, 0)), (B2, .cells #[.int .u64 (((pa : Nat) : Int))] 27 (0, 0)), (B3, .cells #[.int .i64 (((level : Nat) : Int))] 3 (0, 0)), (B4, .cells #[.bool p.r, .bool p.w, .bool p.x, .bool p.u] 66 (0, 0)), (B5, .cells (D.Kernel.cs (⟨(⟨0, 0, 0, 0⟩ : D.Conf), (⟨0, (fun _ => 0)⟩ : D.Mem), (⟨(⟨[]⟩ : D.Tlb), (⟨0, 0, 0⟩ : D.Satp), 0, false, false, 0⟩ : D.Hart), (⟨0, 0, 0⟩ : D.Pool), (⟨0, 0, 0⟩ : D.Asids), [], 0, 0, []⟩ : D.Kernel) SX.Sl.nil SX.Sl.nil SX.Sl.nil SX.Sl.nil) 45 (0, 0)), (B6, .cells #[.int .u64 ((((D.whereN k id addr ((level : Nat) : Int)).top : Nat) : Int))] 27 (0, 0)), (B7, .cells #[.int .i64 ((((D.whereN k id addr ((level : Nat) : Int)).lv : Nat) : Int))] 3 (0, 0)), (B8, .cells #[.int .u64 0] 27 (0, 0)), (B9, .cells #[.int .u64 0] 27 (0, 0))] ⟨[(D.fnsF s4 k.fences), (D.spsF s3 k.spaces), (D.tlbF s2 k.hart.tlb.sets), (D.memF s1 k.mem.f)], (SX.roOf H).fb, (SX.roOf H).no⟩) 3 (SX.msk 11 447) ?_ (fun hJ3 => ?_)
  · rintro ac w ⟨B8, B9, A, H⟩
    refine SX.callGD 6 [0, 3] A H (Size_calls ((level : Nat) : Int) w (hL.below H.below) ko) kr kr kr kr (Or.inl kr) fun ac w A H => ?_
    exact SX.useD hJ1 kr kr ⟨SX.bb H 8, SX.bb H 9, A.sub _ kr, (H.pick [0, 1, 2, 3, 4, 5, 6, 7, 8, 9] _ kc kr).ro_pick [0, 1, 2, 3] _ kr⟩
  refine SX.joinD (fun ac w => ∃ B8 : Nat, SX.Agrees 101 ac [(1, .int .i64 id), (6, .pointer (some ⟨B0, 0, none⟩)), (8, .pointer (some ⟨B1, 0, none⟩)), (9, .pointer (some ⟨B2, 0, none⟩)), (10, .pointer (some ⟨B3, 0, none⟩)), (11, .pointer (some ⟨B4, 0, none⟩)), (12, .pointer (some ⟨B5, 0, none⟩)), (13, .int .i64 0), (14, .pointer (some ⟨B6, 0, none⟩)), (15, .pointer (some ⟨B7, 0, none⟩)), (17, .pointer (some ⟨B8, 0, none⟩)), (43, .int .u64 ((((k.conf.data.toNat * 4096) : Nat) : Int))), (45, .int .u64 (((sizeN ((level : Nat) : Int) : Nat) : Int)))] ∧ SX.Own w0 w [(B0, .cells (D.Kernel.cs k s1 s2 s3 s4) 45 (0, 0)), (B1, .cells #[.int .u64 (((addr : Nat) : Int))] 27 (0, 0)), (B2, .cells #[.int .u64 (((pa : Nat) : Int))] 27 (0, 0)), (B3, .cells #[.int .i64 (((level : Nat) : Int))] 3 (0, 0)), (B4, .cells #[.bool p.r, .bool p.w, .bool p.x, .bool p.u] 66 (0, 0)), (B5, .cells (D.Kernel.cs (⟨(⟨0, 0, 0, 0⟩ : D.Conf), (⟨0, (fun _ => 0)⟩ : D.Mem), (⟨(⟨[]⟩ : D.Tlb), (⟨0, 0, 0⟩ : D.Satp), 0, false, false, 0⟩ : D.Hart), (⟨0, 0, 0⟩ : D.Pool), (⟨0, 0, 0⟩ : D.Asids), [], 0, 0, []⟩ : D.Kernel) SX.Sl.nil SX.Sl.nil SX.Sl.nil SX.Sl.nil) 45 (0, 0)), (B6, .cells #[.int .u64 ((((D.whereN k id addr ((level : Nat) : Int)).top : Nat) : Int))] 27 (0, 0)), (B7, .cells #[.int .i64 ((((D.whereN k id addr ((level : Nat) : Int)).lv : Nat) : Int))] 3 (0, 0)), (B8, .cells #[.int .u64 0] 27 (0, 0))] ⟨[(D.fnsF s4 k.fences), (D.spsF s3 k.spaces), (D.tlbF s2 k.hart.tlb.sets), (D.memF s1 k.mem.f)], (SX.roOf H).fb, (SX.roOf H).no⟩) 3 (SX.msk 11 255) ?_ (fun hJ4 => ?_)
  · rintro ac w ⟨B8, A, H⟩
    refine SX.act 8 0 [0, 3] A H kr kr kr (Or.inl kr) fun ac w A H => ?_
    exact SX.useD hJ1 kr kr ⟨SX.bb H 8, SX.bb H 9, A.sub _ kr, (H.pick [0, 1, 2, 3, 4, 5, 6, 7, 8, 9] _ kc kr).ro_pick [0, 1, 2, 3] _ kr⟩
  refine SX.many 6 [7, 8] kr kr (SX.allC_cons ?_ (SX.allC_cons ?_ (SX.allC_cons ?_ SX.allC_nil)))
  ·
   refine SX.callGD_op 6 [0, 3] A H (Size_calls ((level : Nat) : Int) w (hL.below H.below) ko) kr kr (Or.inl kr) fun ac w A H => ?_
   refine SX.many 7 [8] kr kr (SX.allC_cons ?_ (SX.allC_cons ?_ SX.allC_nil))
   ·
    refine SX.act_op 7 0 [0, 3] A H kr (Or.inl kr) fun ac w A H => ?_
    exact SX.useD hJ4 kr kr ⟨SX.bb H 8, A.sub _ kr, (H.pick [0, 1, 2, 3, 4, 5, 6, 7, 8] _ kc kr).ro_pick [0, 1, 2, 3] _ kr⟩
   ·
    refine SX.act_op 8 0 [0, 3] A H kr (Or.inl kr) fun ac w A H => ?_
    exact SX.useD hJ2 kr kr ⟨SX.bb H 8, A.sub _ kr, (H.pick [0, 1, 2, 3, 4, 5, 6, 7, 8] _ kc kr).ro_pick [0, 1, 2, 3] _ kr⟩
  ·
   refine SX.act_op 7 0 [0, 3] A H kr (Or.inl kr) fun ac w A H => ?_
   refine SX.many 6 [8] kr kr (SX.allC_cons ?_ (SX.allC_cons ?_ SX.allC_nil))
   ·
    refine SX.callGD_op 6 [0, 3] A H (Size_calls ((level : Nat) : Int) w (hL.below H.below) ko) kr kr (Or.inl kr) fun ac w A H => ?_
    exact SX.useD hJ4 kr kr ⟨SX.bb H 8, A.sub _ kr, (H.pick [0, 1, 2, 3, 4, 5, 6, 7, 8] _ kc kr).ro_pick [0, 1, 2, 3] _ kr⟩
   ·
    refine SX.act_op 8 0 [0, 3] A H kr (Or.inl kr) fun ac w A H => ?_
    exact SX.useD hJ3 kr kr ⟨SX.bb H 8, SX.bb H 9, A.sub _ kr, (H.pick [0, 1, 2, 3, 4, 5, 6, 7, 8, 9] _ kc kr).ro_pick [0, 1, 2, 3] _ kr⟩
  ·
   refine SX.act_op 8 0 [0, 3] A H kr (Or.inl kr) fun ac w A H => ?_
   refine SX.many 6 [7] kr kr (SX.allC_cons ?_ (SX.allC_cons ?_ SX.allC_nil))
   ·
    refine SX.callGD_op 6 [0, 3] A H (Size_calls ((level : Nat) : Int) w (hL.below H.below) ko) kr kr (Or.inl kr) fun ac w A H => ?_
    exact SX.useD hJ2 kr kr ⟨SX.bb H 8, A.sub _ kr, (H.pick [0, 1, 2, 3, 4, 5, 6, 7, 8] _ kc kr).ro_pick [0, 1, 2, 3] _ kr⟩
   ·
    refine SX.act_op 7 0 [0, 3] A H kr (Or.inl kr) fun ac w A H => ?_
    exact SX.useD hJ3 kr kr ⟨SX.bb H 9, SX.bb H 8, A.sub _ kr, (H.pick [0, 1, 2, 3, 4, 5, 6, 7, 9, 8] _ kc kr).ro_pick [0, 1, 2, 3] _ kr⟩
end Go.Proofs.YtfkmcdkncmapmaaGreatDoor
set_option linter.unusedVariables false
set_option linter.unusedSimpArgs false
set_option maxRecDepth 100000
set_option maxHeartbeats 1000000
namespace Go.Proofs.YtfkmcdkncmapmaaGreatDoor
open Go Go.RowKit
namespace D
def Fence.names (f : Fence) (e : Entry) : Bool := (!f.hasAddr || (isN f.addr && e.covers f.addr)) && ((!f.hasAsid || (!e.global && decide (e.asid = f.asid))) && e.valid)
def Set.dropN (f : Fence) (o c : Set) (k : Int) : Set := if f.names (o.way k) = true then c.put k Entry.zero else c
def Set.fenced (f : Fence) (o : Set) : Set := Set.dropN f o (Set.dropN f o (Set.dropN f o (Set.dropN f o o 0) 1) 2) 3
def fen (f : Fence) (l : List Set) (i : Nat) : List Set := (l.take i).map (Set.fenced f) ++ l.drop i
theorem dropN_t0 {f : Fence} {o c : Set} (h : f.names o.w0 = true) : Set.dropN f o c 0 = c.put 0 Entry.zero := by unfold Set.dropN; rw [show o.way 0 = o.w0 from rfl, if_pos h]
theorem dropN_f0 {f : Fence} {o c : Set} (h : f.names o.w0 = false) : Set.dropN f o c 0 = c := by unfold Set.dropN; rw [show o.way 0 = o.w0 from rfl, if_neg (by rw [h]; decide)]
theorem dropN_t1 {f : Fence} {o c : Set} (h : f.names o.w1 = true) : Set.dropN f o c 1 = c.put 1 Entry.zero := by unfold Set.dropN; rw [show o.way 1 = o.w1 from rfl, if_pos h]
theorem dropN_f1 {f : Fence} {o c : Set} (h : f.names o.w1 = false) : Set.dropN f o c 1 = c := by unfold Set.dropN; rw [show o.way 1 = o.w1 from rfl, if_neg (by rw [h]; decide)]
theorem dropN_t2 {f : Fence} {o c : Set} (h : f.names o.w2 = true) : Set.dropN f o c 2 = c.put 2 Entry.zero := by unfold Set.dropN; rw [show o.way 2 = o.w2 from rfl, if_pos h]
theorem dropN_f2 {f : Fence} {o c : Set} (h : f.names o.w2 = false) : Set.dropN f o c 2 = c := by unfold Set.dropN; rw [show o.way 2 = o.w2 from rfl, if_neg (by rw [h]; decide)]
theorem dropN_t3 {f : Fence} {o c : Set} (h : f.names o.w3 = true) : Set.dropN f o c 3 = c.put 3 Entry.zero := by unfold Set.dropN; rw [show o.way 3 = o.w3 from rfl, if_pos h]
theorem dropN_f3 {f : Fence} {o c : Set} (h : f.names o.w3 = false) : Set.dropN f o c 3 = c := by unfold Set.dropN; rw [show o.way 3 = o.w3 from rfl, if_neg (by rw [h]; decide)]
theorem fen_zero (f : Fence) (l : List Set) : fen f l 0 = l := by simp [fen]
theorem fen_len (f : Fence) (l : List Set) (i : Nat) : (fen f l i).length = l.length := by simp [fen]; omega
theorem fen_get (f : Fence) {l : List Set} {i : Nat} {o : Set} (h : l[i]? = some o) : (fen f l i)[i]? = some o := by
 obtain ⟨hi, _⟩ := List.getElem?_eq_some_iff.1 h
 unfold fen
 rw [List.getElem?_append_right (by simp; omega), List.length_map, List.length_take, Nat.min_eq_left ko, Nat.sub_self, List.getElem?_drop, Nat.add_zero, h]
theorem set_same {l : List Set} {i : Nat} {o : Set} (h : l[i]? = some o) : l.set i o = l := by
 apply List.ext_getElem?
 intro t
 by_cases ht : i = t
 · subst ht; rw [List.getElem?_set_self (List.getElem?_eq_some_iff.1 h).1, h]
 · rw [List.getElem?_set_ne ht]
theorem fen_succ (f : Fence) {l : List Set} {i : Nat} {o : Set} (h : l[i]? = some o) : fen f l (i + 1) = (fen f l i).set i (o.fenced f) := by
 obtain ⟨hi, ho⟩ := List.getElem?_eq_some_iff.1 h
 have hd : l.drop i = o :: l.drop (i + 1) := by rw [List.drop_eq_getElem_cons hi, ho]
 unfold fen
 rw [List.take_add_one, h, hd, List.set_append_right _ _ (by simp; omega)]
 simp only [List.map_append, List.length_map, List.length_take, Nat.min_eq_left (Nat.le_of_lt hi), Nat.sub_self, List.set_cons_zero, Option.toList, List.map_cons, List.map_nil, List.append_assoc, List.cons_append, List.nil_append]
theorem fen_all (f : Fence) (l : List Set) : fen f l l.length = l.map (Set.fenced f) := by simp [fen]
theorem drop_set {l : List Set} {i : Nat} {c : Set} (hi : i < l.length) (k : Int) : (Tlb.drop ⟨l.set i c⟩ i k).sets = l.set i (c.put k Entry.zero) := by
 show ((l.set i c).set i _) = _
 rw [List.set_set]
 show l.set i (Set.put (((l.set i c)[i]?).getD Set.zero) k Entry.zero) = _
 rw [List.getElem?_set_self hi]; rfl
def Tlb.do_ (t : Tlb) (f : Fence) : Tlb := ⟨t.sets.map (Set.fenced f)⟩
def Tlb.all (t : Tlb) (l : List Fence) : Tlb := l.foldl Tlb.do_ t
theorem put_lv {s : Set} (h : s.Lv) (k : Int) : (s.put k Entry.zero).Lv := by
 have hz : Entry.zero.Lv := fun h => by cases h
 obtain ⟨h0, h1, h2, h3⟩ := h
 unfold Set.put
 split
 · exact ⟨hz, h1, h2, h3⟩
 · split
   · exact ⟨h0, hz, h2, h3⟩
   · split
     · exact ⟨h0, h1, hz, h3⟩
     · exact ⟨h0, h1, h2, hz⟩
theorem dropN_lv {f : Fence} {o c : Set} (h : c.Lv) (k : Int) : (Set.dropN f o c k).Lv := by
 unfold Set.dropN; split
 · exact put_lv h k
 · exact h
theorem do_ok {t : Tlb} (h : t.Ok) (f : Fence) : (t.do_ f).Ok := ⟨by show (t.sets.map _).length ≤ 16; rw [List.length_map]; exact h.n, fun s hs => by
 obtain ⟨o, ho, rfl⟩ := List.mem_map.1 hs
 exact dropN_lv (dropN_lv (dropN_lv (dropN_lv (h.lv o ho) 0) 1) 2) 3⟩
theorem all_ok : ∀ (l : List Fence) {t : Tlb}, t.Ok → (t.all l).Ok
 | [], _, h => h
 | f :: l, _, h => all_ok l (do_ok h f)
end D
attribute [irreducible] D.Set.dropN
end Go.Proofs.YtfkmcdkncmapmaaGreatDoor
