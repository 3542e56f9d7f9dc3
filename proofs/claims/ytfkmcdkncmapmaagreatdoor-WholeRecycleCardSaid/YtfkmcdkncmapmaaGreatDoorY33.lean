/- Walks of functions, written by the session's own program wip/sx/sxgen.py; Lean checks them. -/
import Derived.Test.YtfkmcdkncmapmaaGreatDoorY02
import Derived.Test.YtfkmcdkncmapmaaGreatDoorY31
import Derived.Test.YtfkmcdkncmapmaaGreatDoorY32
import Derived.Test.YtfkmcdkncmapmaaGreatDoorProg
import Derived.Test.YtfkmcdkncmapmaaGreatDoorY04
import Derived.MapKept
set_option linter.unusedVariables false
set_option linter.unusedSimpArgs false
set_option maxRecDepth 100000
set_option maxHeartbeats 2000000
namespace Go.Proofs.YtfkmcdkncmapmaaGreatDoor
open Go Go.RowKit
theorem D.framesN_lt (m : D.Mem) : ∀ (l top : Nat), top < 4503599627370495 → ∀ f ∈ D.framesN m l top, f < 4503599627370495
 | 0, top, h, f, hf => by
  have : f ∈ [top] := hf
  rw [List.mem_singleton.1 this]; exact h
 | l + 1, top, h, f, hf => by
  rcases List.mem_cons.1 (show f ∈ top :: _ from hf) with rfl | hf
  · exact h
  · obtain ⟨i, _, hi⟩ := List.mem_flatMap.1 hf
    unfold D.rowN at hi
    split at hi
    · exact framesN_lt m l _ (by have := D.atN_ppn m top i; omega) f hi
    · cases hi
theorem D.frames_few (m : D.Mem) (top : Nat) : (D.framesN m 2 top).length < 1000000 := by
 have h := D.framesN_len m 2 top
 have e : D.boundN 2 = 262657 := rfl
 omega
theorem Frames_calls (m : D.Mem) (top : Nat) (l : Nat) {no : List Nat} (s1 : SX.Sl) (w0 : World) (hno : ∀ b ∈ no, b < w0.heap.size) (hs1 : (D.memF s1 m.f).P w0 no) (hL : Ld w0) (hl : l ≤ 2) (ht : top < 4503599627370495) :
 SX.Rets Tryz.prog 55 #[(D.Mem.enc m s1), .int .u64 (((top : Nat) : Int)), .int .i64 (((l : Nat) : Int))] w0 (fun r_ w => ∃ y1 : SX.Sl, r_ = (.slice y1.a y1.n y1.c) ∧ (D.wsF y1 (D.framesN m l top)).P w no) := frames_calls l m s1 top w0 hno hL hl ht hs1
namespace D
def Kernel.unrooted (k : Kernel) (s : Space) : Mem := withM k.mem ⟨s.root, 2, Pte.zero⟩ (ofN 133955584) Pte.zero
def Kernel.freed (k : Kernel) (s : Space) : Kernel := (⟨k.conf, k.unrooted s, k.hart, k.pool, k.asids, k.spaces, k.now, k.shared, k.fences⟩ : Kernel).backN (framesN (k.unrooted s) 2 s.root)
def Kernel.destroyed (k : Kernel) (i : Nat) (s : Space) : Kernel := ⟨k.conf, (k.freed s).mem, k.hart, (k.freed s).pool, k.asids.give s.asid, k.spaces.set i ⟨0, 0, false⟩, k.now, k.shared, k.fences⟩
def destroyN (k : Kernel) (id : Int) : KErr := if k.lives id = false then ⟨k, 4⟩ else if id = k.now then ⟨k, 10⟩ else ⟨k.destroyed id.toNat (k.sp id), 0⟩
end D
theorem Destroy_calls (k : D.Kernel) (id : Int)  {no : List Nat} (s1 s2 s3 s4 : SX.Sl) (w0 : World) (hno : ∀ b ∈ no, b < w0.heap.size) (hs1 : (D.memF s1 k.mem.f).P w0 no) (hs2 : (D.tlbF s2 k.hart.tlb.sets).P w0 no) (hs3 : (D.spsF s3 k.spaces).P w0 no) (hs4 : (D.fnsF s4 k.fences).P w0 no) (hL : Ld w0) (hp : k.pool.Ok) (ha : k.asids.Ok) (hms : k.mem.size ≤ 1099511627776) (hrt : ∀ s ∈ k.spaces, s.root < 4503599627370495 ∧ s.asid < 18446744073709551616) (hns : k.spaces.length ≤ 32) : SX.Rets Tryz.prog 18 #[(D.Kernel.enc k s1 s2 s3 s4), .int .i64 id] w0 (fun r_ w => ∃ y1 y2 y3 y4 : SX.Sl, r_ = (.tuple #[(D.Kernel.enc ((D.destroyN k id).k) y1 y2 y3 y4), .int .i64 ((D.destroyN k id).err)]) ∧ (D.memF y1 (((D.destroyN k id).k).mem.f)).P w no ∧ (D.tlbF y2 (((D.destroyN k id).k).hart.tlb.sets)).P w no ∧ (D.spsF y3 (((D.destroyN k id).k).spaces)).P w no ∧ (D.fnsF y4 (((D.destroyN k id).k).fences)).P w no) := by
 refine SX.enterN (args := [(D.Kernel.enc k s1 s2 s3 s4), .int .i64 id]) (hno := hno) 61 Tryz.func18 rfl kr fun ac A H => ?_
 have H := H.known (D.memF s1 k.mem.f) hs1
 have H := H.known (D.tlbF s2 k.hart.tlb.sets) hs2
 have H := H.known (D.spsF s3 k.spaces) hs3
 have H := H.known (D.fnsF s4 k.fences) hs4
 refine XS (XR (Xb [0, 0, 0] A H fun ac w A H => XD (XT (XS (XB (XS (XR (Xb [0, 0] A H fun ac w A H => Xc A H (lives_calls k id s1 s2 s3 s4 w H.nos_lt (H.fact' 3 (D.memF s1 k.mem.f) kr) (H.fact' 2 (D.tlbF s2 k.hart.tlb.sets) kr) (H.fact' 1 (D.spsF s3 k.spaces) kr) (H.fact' 0 (D.fnsF s4 k.fences) kr)) fun ac w A H => Xb [0, 0] A H fun ac w A H => XD (XT ?_)))))))))
 refine Xs (k.lives id) (fun h1 => ?_) fun h1 => ?_
 ·
  have A := A.re 8 (.bool (!(k.lives id))) (.bool false) kr (by rw [h1]; rfl)
  refine Xf A (XS (XR (Xb [0, 0, 0, 0, 0] A H fun ac w A H => XD (XT ?_))))
  refine Xs (id == k.now) (fun h2 => ?_) fun h2 => ?_
  ·
   have A := A.rb 14 h2
   have h2p : id = k.now := kp h2
   refine Xt A (XS (XR (Xb [0, 1, 0] A H fun ac w A H => XD (XT (XW (XQ (XU (Xr [1, 0] ((.tuple #[(D.Kernel.enc k s1 s2 s3 s4), .int .i64 10])) A H ?_))))))))
   have hf : D.destroyN k id = ⟨k, 10⟩ := by rw [D.destroyN, if_neg (by rw [h1]; decide), if_pos (by simpa using h2)]
   refine ⟨s1, s2, s3, s4, ?_, (by rw [hf]; exact (H.out 3 (D.memF s1 k.mem.f) kr)), (by rw [hf]; exact (H.out 2 (D.tlbF s2 k.hart.tlb.sets) kr)), (by rw [hf]; exact (H.out 1 (D.spsF s3 k.spaces) kr)), (by rw [hf]; exact (H.out 0 (D.fnsF s4 k.fences) kr))⟩
   rw [hf] <;> rfl
  ·
   have A := A.rb 14 h2
   have h2p : ¬ (id = k.now) := kp h2
   refine Xf A (XK (XN (XT (XS (XR (Xb [0, 0, 0] A H fun ac w A H => ?_))))))
   have A := A.re 22 (.int .i64 id) (.int .i64 (((id.toNat : Nat) : Int))) kr (by rw [Int.toNat_of_nonneg ((D.lives_lt (by assumption)).1)])
   obtain ⟨e1, he1⟩ := SX.get_of_lt (l := k.spaces) (i := id.toNat) ((D.lives_lt (by assumption)).2)
   refine SX.given A (SX.run_idx (P := Tryz.prog) (H.fact' 1 (D.spsF s3 k.spaces) kr) (T := 42) (E := 80) (k := .i64) (i := id.toNat) Tryz.underlying42 kr (by rw [SX.SlAt.count D.Space.len kc (H.fact' 1 (D.spsF s3 k.spaces) kr)]; exact (List.getElem?_eq_some_iff.1 he1).1)) kr kr fun ac A => ?_
   refine SX.given A (SX.run_loadN (P := Tryz.prog) (T := 80) (b := s3.blk) (o := s3.off + id.toNat * 3) (D.Space.cells e1) kr kr (fun q_ hq_ => SX.SlAt.elem D.Space.len (H.fact' 1 (D.spsF s3 k.spaces) kr) he1 hq_)) kr kr fun ac A => Xb [0, 2] A H fun ac w A H => XD (XT (XS (XR (Xb [0, 0, 3] A H fun ac w A H => XD (XT (XS (SX.drawn 10 [0, 2] kr A H fun w H => SX.takes [0, 2] [(0, none), (1, some 0), (2, none), (3, some 1), (4, none), (6, none)] A H kr kd kr kr kr (Or.inl kr) fun ac A => SX.callGD 5 [0, 2] A H (kernelAddr_calls  w) kr kr kr kr (Or.inl kr) fun ac w A H => SX.callD 7 [0, 2] A H (With_calls k.mem (⟨e1.root, 2, (⟨false, false, false, false, false, false, false, false, 0, 0, 0⟩ : D.Pte)⟩ : D.Spot) (ofN 133955584) (⟨false, false, false, false, false, false, false, false, 0, 0, 0⟩ : D.Pte) s1 w H.nos_lt (H.fact' 3 (D.memF s1 k.mem.f) kr) (D.ofN_lt _) (by show (2 : Int) = 0 ∨ (2 : Int) = 1 ∨ (2 : Int) = 2; omega) ((hrt _ (List.mem_of_getElem? he1)).1) (⟨by show (0 : Nat) < _; decide, by show (0 : Nat) < _; decide, by show (0 : Nat) < _; decide⟩) (by first | assumption | omega)) kr kr kr kr (Or.inl kr) ?_)))))))
   rintro _ ac w ⟨z5, rfl, hz5⟩ A H
   have H := H.learn (D.memF z5 ((D.withM k.mem (⟨e1.root, 2, (⟨false, false, false, false, false, false, false, false, 0, 0, 0⟩ : D.Pte)⟩ : D.Spot) (ofN 133955584) (⟨false, false, false, false, false, false, false, false, 0, 0, 0⟩ : D.Pte)).f)) hz5
   refine SX.takes [0, 2] [(8, none)] A H kr kd kr kr kr (Or.inl kr) (k := 1) fun ac A => SX.act 9 3 [0, 2] A H kr kr kr (Or.inl kr) (k := 1) fun ac w A H => ?_
   refine SX.doneD kr ?_ _
   refine XT (XS (SX.drawn 7 [2, 3] kr A H fun w H => SX.takes [2, 3] [(0, some 1), (1, none), (2, some 1), (3, none), (4, some 0)] A H kr kd kr kr kr (Or.inl kr) fun ac A => SX.callD 5 [2, 3] A H (Frames_calls (D.withM k.mem (⟨e1.root, 2, (⟨false, false, false, false, false, false, false, false, 0, 0, 0⟩ : D.Pte)⟩ : D.Spot) (ofN 133955584) (⟨false, false, false, false, false, false, false, false, 0, 0, 0⟩ : D.Pte)) e1.root 2 z5 w H.nos_lt (H.fact' 0 (D.memF z5 ((D.withM k.mem (⟨e1.root, 2, (⟨false, false, false, false, false, false, false, false, 0, 0, 0⟩ : D.Pte)⟩ : D.Spot) (ofN 133955584) (⟨false, false, false, false, false, false, false, false, 0, 0, 0⟩ : D.Pte)).f)) kr) (hL.below H.below) ko ((hrt _ (List.mem_of_getElem? he1)).1)) kr kr kr kr (Or.inl kr) ?_))
   rintro _ ac w ⟨z6, rfl, hz6⟩ A H
   have H := H.learn (D.wsF z6 (D.framesN (D.withM k.mem (⟨e1.root, 2, (⟨false, false, false, false, false, false, false, false, 0, 0, 0⟩ : D.Pte)⟩ : D.Spot) (ofN 133955584) (⟨false, false, false, false, false, false, false, false, 0, 0, 0⟩ : D.Pte)) 2 e1.root)) hz6
   refine SX.callD 6 [2, 3] A H (back_calls (⟨k.conf, (D.withM k.mem (⟨e1.root, 2, (⟨false, false, false, false, false, false, false, false, 0, 0, 0⟩ : D.Pte)⟩ : D.Spot) (ofN 133955584) (⟨false, false, false, false, false, false, false, false, 0, 0, 0⟩ : D.Pte)), k.hart, k.pool, k.asids, k.spaces, k.now, k.shared, k.fences⟩ : D.Kernel) (D.framesN (D.withM k.mem (⟨e1.root, 2, (⟨false, false, false, false, false, false, false, false, 0, 0, 0⟩ : D.Pte)⟩ : D.Spot) (ofN 133955584) (⟨false, false, false, false, false, false, false, false, 0, 0, 0⟩ : D.Pte)) 2 e1.root) z5 s2 s3 s4 z6 w H.nos_lt (H.fact' 1 (D.memF z5 ((D.withM k.mem (⟨e1.root, 2, (⟨false, false, false, false, false, false, false, false, 0, 0, 0⟩ : D.Pte)⟩ : D.Spot) (ofN 133955584) (⟨false, false, false, false, false, false, false, false, 0, 0, 0⟩ : D.Pte)).f)) kr) (H.fact' 4 (D.tlbF s2 k.hart.tlb.sets) kr) (H.fact' 3 (D.spsF s3 k.spaces) kr) (H.fact' 2 (D.fnsF s4 k.fences) kr) (H.fact' 0 (D.wsF z6 (D.framesN (D.withM k.mem (⟨e1.root, 2, (⟨false, false, false, false, false, false, false, false, 0, 0, 0⟩ : D.Pte)⟩ : D.Spot) (ofN 133955584) (⟨false, false, false, false, false, false, false, false, 0, 0, 0⟩ : D.Pte)) 2 e1.root)) kr) (by assumption) (D.framesN_lt _ _ _ (hrt _ (List.mem_of_getElem? he1)).1) (D.frames_few _ _)) kr kr kr kr (Or.inl kr) (k := 1) ?_
   rintro _ ac w ⟨z7, z8, z9, z10, rfl, hz7, hz8, hz9, hz10⟩ A H
   have H := H.learn (D.memF z7 (((⟨k.conf, (D.withM k.mem (⟨e1.root, 2, (⟨false, false, false, false, false, false, false, false, 0, 0, 0⟩ : D.Pte)⟩ : D.Spot) (ofN 133955584) (⟨false, false, false, false, false, false, false, false, 0, 0, 0⟩ : D.Pte)), k.hart, k.pool, k.asids, k.spaces, k.now, k.shared, k.fences⟩ : D.Kernel).backN (D.framesN (D.withM k.mem (⟨e1.root, 2, (⟨false, false, false, false, false, false, false, false, 0, 0, 0⟩ : D.Pte)⟩ : D.Spot) (ofN 133955584) (⟨false, false, false, false, false, false, false, false, 0, 0, 0⟩ : D.Pte)) 2 e1.root)).mem.f)) hz7
   have H := H.learn (D.tlbF z8 (((⟨k.conf, (D.withM k.mem (⟨e1.root, 2, (⟨false, false, false, false, false, false, false, false, 0, 0, 0⟩ : D.Pte)⟩ : D.Spot) (ofN 133955584) (⟨false, false, false, false, false, false, false, false, 0, 0, 0⟩ : D.Pte)), k.hart, k.pool, k.asids, k.spaces, k.now, k.shared, k.fences⟩ : D.Kernel).backN (D.framesN (D.withM k.mem (⟨e1.root, 2, (⟨false, false, false, false, false, false, false, false, 0, 0, 0⟩ : D.Pte)⟩ : D.Spot) (ofN 133955584) (⟨false, false, false, false, false, false, false, false, 0, 0, 0⟩ : D.Pte)) 2 e1.root)).hart.tlb.sets)) hz8
   have H := H.learn (D.spsF z9 (((⟨k.conf, (D.withM k.mem (⟨e1.root, 2, (⟨false, false, false, false, false, false, false, false, 0, 0, 0⟩ : D.Pte)⟩ : D.Spot) (ofN 133955584) (⟨false, false, false, false, false, false, false, false, 0, 0, 0⟩ : D.Pte)), k.hart, k.pool, k.asids, k.spaces, k.now, k.shared, k.fences⟩ : D.Kernel).backN (D.framesN (D.withM k.mem (⟨e1.root, 2, (⟨false, false, false, false, false, false, false, false, 0, 0, 0⟩ : D.Pte)⟩ : D.Spot) (ofN 133955584) (⟨false, false, false, false, false, false, false, false, 0, 0, 0⟩ : D.Pte)) 2 e1.root)).spaces)) hz9
   have H := H.learn (D.fnsF z10 (((⟨k.conf, (D.withM k.mem (⟨e1.root, 2, (⟨false, false, false, false, false, false, false, false, 0, 0, 0⟩ : D.Pte)⟩ : D.Spot) (ofN 133955584) (⟨false, false, false, false, false, false, false, false, 0, 0, 0⟩ : D.Pte)), k.hart, k.pool, k.asids, k.spaces, k.now, k.shared, k.fences⟩ : D.Kernel).backN (D.framesN (D.withM k.mem (⟨e1.root, 2, (⟨false, false, false, false, false, false, false, false, 0, 0, 0⟩ : D.Pte)⟩ : D.Spot) (ofN 133955584) (⟨false, false, false, false, false, false, false, false, 0, 0, 0⟩ : D.Pte)) 2 e1.root)).fences)) hz10
   refine SX.act 7 3 [2, 3] A H kr kr kr (Or.inr kr) (k := 5) fun ac w A H => ?_
   refine SX.doneD kr ?_ _
   refine XT (XS (XR (Xb [0, 0, 0, 2] A H fun ac w A H => Xc A H (aGive_calls k.asids e1.asid w (ha) ((hrt _ (List.mem_of_getElem? he1)).2)) fun ac w A H => Xb [0, 0, 0, 0, 3] A H fun ac w A H => XD (XT (XS (XR (Xb [0, 0] A H fun ac w A H => ?_)))))))
   have hlc := (H.fact' 7 (D.spsF s3 k.spaces) kr)
   have hcnt := SX.SlAt.count D.Space.len kc hlc
   refine SX.callW A (cloneP (k.spaces.flatMap D.Space.cells) s3 w hlc (spaces_one k.spaces) (by rw [hcnt]; omega)) kr kr ?_
   rintro u ac w2 ⟨hB, hF⟩ A
   rw [hcnt] at hF
   rcases hF with ⟨rfl, hn0, hl0⟩ | ⟨b, c, zs, rfl, hblk, hlo, hcl, hyl, hnc, hcm⟩
   ·
    have H := H.later hB
    exact absurd (D.lives_lt (k := k) (id := id) (by assumption)).2 ko
   ·
    have H := H.adoptE hB hblk hlo
    refine Xb [0, 3] A H fun ac w A H => XD (XT (XS (XR (Xb [0, 3, 0, 0] A H fun ac w A H => ?_))))
    have A := A.re 57 (.int .i64 id) (.int .i64 (((id.toNat : Nat) : Int))) kr (by rw [Int.toNat_of_nonneg ((D.lives_lt (by assumption)).1)])
    refine SX.given A (SX.run_idx_slice (P := Tryz.prog) (w := w) (T := 42) (E := 80) (sz := 3) (k := .i64) (b := b) (off := 0) (len := k.spaces.length) (cap := c) (i := id.toNat) Tryz.underlying42 kr ((D.lives_lt (k := k) (id := id) (by assumption)).2)) kr kr fun ac A => ?_
    have hbk := H.has (b, .cells (k.spaces.flatMap D.Space.cells ++ zs).toArray 80 (0, 0)) (List.mem_of_getElem? (i := 4) kr)
    have H := H.toFront 4 (p := (b, .cells (k.spaces.flatMap D.Space.cells ++ zs).toArray 80 (0, 0))) kr
    have hil := (D.lives_lt (k := k) (id := id) (by assumption)).2
    have hfit : 0 + id.toNat * 3 + (D.Space.cells (⟨0, 0, false⟩ : D.Space)).length ≤ (k.spaces.flatMap D.Space.cells ++ zs).length := by rw [List.length_append, hyl, D.Space.len]; omega
    obtain ⟨x2, w3, hrun, hown, hx2, hg2⟩ := SX.do_store (P := Tryz.prog) (w := w) (T := 80) (b := b) (o := 0 + id.toNat * 3) (v := D.Space.enc (⟨0, 0, false⟩ : D.Space)) (vs := D.Space.cells (⟨0, 0, false⟩ : D.Space)) (by rfl) kr hbk hfit (fun u hu => List.all_eq_true.1 (show (D.Space.cells (⟨0, 0, false⟩ : D.Space)).all (fun v => v.oneCell') = true from rfl) u hu)
    have H := hown _ _ _ H
    rw [Nat.zero_add] at hg2
    refine SX.givenS A hrun kr kr fun ac A => ?_
    obtain ⟨zz, hzz⟩ : ∃ zz : SX.Sl, zz = ⟨some ⟨b, 0, none⟩, k.spaces.length, c⟩ := ⟨_, rfl⟩
    have H := H.give (D.spsF zz (k.spaces.set id.toNat (⟨0, 0, false⟩ : D.Space))) (by intro no hno hw; rw [hzz]; exact list_give D.Space.len (flat_set D.Space.cells 3 kc D.Space.len hil (⟨0, 0, false⟩ : D.Space) hx2 hg2) (by simp) hnc no hno hw)
    have H := H.re1 3 (SX.bb H 3) ((fun (T : D.Kernel) (q : SX.Sl) => .cells #[.int .i64 (T.conf.data), .int .i64 (T.conf.pool), .int .i64 (T.conf.asids), .int .i64 (T.conf.sets), .int .u64 (((T.mem.size : Nat) : Int)), .slice z7.a z7.n z7.c, .slice z8.a z8.n z8.c, .int .u64 (((T.hart.satp.mode : Nat) : Int)), .int .u64 (((T.hart.satp.asid : Nat) : Int)), .int .u64 (((T.hart.satp.ppn : Nat) : Int)), .int .i64 (T.hart.priv), .bool (T.hart.sum), .bool (T.hart.mxr), .int .i64 (T.hart.victim), .int .u64 (((T.pool.base : Nat) : Int)), .int .i64 (T.pool.many), .int .u64 (((T.pool.free : Nat) : Int)), .int .i64 ((k.asids.give e1.asid).many), .int .u64 ((((k.asids.give e1.asid).free : Nat) : Int)), .int .u64 ((((k.asids.give e1.asid).owned : Nat) : Int)), .slice q.a q.n q.c, .int .i64 (T.now), .int .u64 (((T.shared : Nat) : Int)), .slice z10.a z10.n z10.c] 45 (0, 0)) ((⟨k.conf, (D.withM k.mem (⟨e1.root, 2, (⟨false, false, false, false, false, false, false, false, 0, 0, 0⟩ : D.Pte)⟩ : D.Spot) (ofN 133955584) (⟨false, false, false, false, false, false, false, false, 0, 0, 0⟩ : D.Pte)), k.hart, k.pool, k.asids, k.spaces, k.now, k.shared, k.fences⟩ : D.Kernel).backN (D.framesN (D.withM k.mem (⟨e1.root, 2, (⟨false, false, false, false, false, false, false, false, 0, 0, 0⟩ : D.Pte)⟩ : D.Spot) (ofN 133955584) (⟨false, false, false, false, false, false, false, false, 0, 0, 0⟩ : D.Pte)) 2 e1.root))) hzz
    refine XD (XT (XS (XR (Xb [3, 1, 0] A H fun ac w A H => XD (XT (XW (Xr [1, 0] ((.tuple #[(D.Kernel.enc (⟨((⟨k.conf, (D.withM k.mem (⟨e1.root, 2, (⟨false, false, false, false, false, false, false, false, 0, 0, 0⟩ : D.Pte)⟩ : D.Spot) (ofN 133955584) (⟨false, false, false, false, false, false, false, false, 0, 0, 0⟩ : D.Pte)), k.hart, k.pool, k.asids, k.spaces, k.now, k.shared, k.fences⟩ : D.Kernel).backN (D.framesN (D.withM k.mem (⟨e1.root, 2, (⟨false, false, false, false, false, false, false, false, 0, 0, 0⟩ : D.Pte)⟩ : D.Spot) (ofN 133955584) (⟨false, false, false, false, false, false, false, false, 0, 0, 0⟩ : D.Pte)) 2 e1.root)).conf, ((⟨k.conf, (D.withM k.mem (⟨e1.root, 2, (⟨false, false, false, false, false, false, false, false, 0, 0, 0⟩ : D.Pte)⟩ : D.Spot) (ofN 133955584) (⟨false, false, false, false, false, false, false, false, 0, 0, 0⟩ : D.Pte)), k.hart, k.pool, k.asids, k.spaces, k.now, k.shared, k.fences⟩ : D.Kernel).backN (D.framesN (D.withM k.mem (⟨e1.root, 2, (⟨false, false, false, false, false, false, false, false, 0, 0, 0⟩ : D.Pte)⟩ : D.Spot) (ofN 133955584) (⟨false, false, false, false, false, false, false, false, 0, 0, 0⟩ : D.Pte)) 2 e1.root)).mem, ((⟨k.conf, (D.withM k.mem (⟨e1.root, 2, (⟨false, false, false, false, false, false, false, false, 0, 0, 0⟩ : D.Pte)⟩ : D.Spot) (ofN 133955584) (⟨false, false, false, false, false, false, false, false, 0, 0, 0⟩ : D.Pte)), k.hart, k.pool, k.asids, k.spaces, k.now, k.shared, k.fences⟩ : D.Kernel).backN (D.framesN (D.withM k.mem (⟨e1.root, 2, (⟨false, false, false, false, false, false, false, false, 0, 0, 0⟩ : D.Pte)⟩ : D.Spot) (ofN 133955584) (⟨false, false, false, false, false, false, false, false, 0, 0, 0⟩ : D.Pte)) 2 e1.root)).hart, ((⟨k.conf, (D.withM k.mem (⟨e1.root, 2, (⟨false, false, false, false, false, false, false, false, 0, 0, 0⟩ : D.Pte)⟩ : D.Spot) (ofN 133955584) (⟨false, false, false, false, false, false, false, false, 0, 0, 0⟩ : D.Pte)), k.hart, k.pool, k.asids, k.spaces, k.now, k.shared, k.fences⟩ : D.Kernel).backN (D.framesN (D.withM k.mem (⟨e1.root, 2, (⟨false, false, false, false, false, false, false, false, 0, 0, 0⟩ : D.Pte)⟩ : D.Spot) (ofN 133955584) (⟨false, false, false, false, false, false, false, false, 0, 0, 0⟩ : D.Pte)) 2 e1.root)).pool, (k.asids.give e1.asid), (k.spaces.set id.toNat (⟨0, 0, false⟩ : D.Space)), ((⟨k.conf, (D.withM k.mem (⟨e1.root, 2, (⟨false, false, false, false, false, false, false, false, 0, 0, 0⟩ : D.Pte)⟩ : D.Spot) (ofN 133955584) (⟨false, false, false, false, false, false, false, false, 0, 0, 0⟩ : D.Pte)), k.hart, k.pool, k.asids, k.spaces, k.now, k.shared, k.fences⟩ : D.Kernel).backN (D.framesN (D.withM k.mem (⟨e1.root, 2, (⟨false, false, false, false, false, false, false, false, 0, 0, 0⟩ : D.Pte)⟩ : D.Spot) (ofN 133955584) (⟨false, false, false, false, false, false, false, false, 0, 0, 0⟩ : D.Pte)) 2 e1.root)).now, ((⟨k.conf, (D.withM k.mem (⟨e1.root, 2, (⟨false, false, false, false, false, false, false, false, 0, 0, 0⟩ : D.Pte)⟩ : D.Spot) (ofN 133955584) (⟨false, false, false, false, false, false, false, false, 0, 0, 0⟩ : D.Pte)), k.hart, k.pool, k.asids, k.spaces, k.now, k.shared, k.fences⟩ : D.Kernel).backN (D.framesN (D.withM k.mem (⟨e1.root, 2, (⟨false, false, false, false, false, false, false, false, 0, 0, 0⟩ : D.Pte)⟩ : D.Spot) (ofN 133955584) (⟨false, false, false, false, false, false, false, false, 0, 0, 0⟩ : D.Pte)) 2 e1.root)).shared, ((⟨k.conf, (D.withM k.mem (⟨e1.root, 2, (⟨false, false, false, false, false, false, false, false, 0, 0, 0⟩ : D.Pte)⟩ : D.Spot) (ofN 133955584) (⟨false, false, false, false, false, false, false, false, 0, 0, 0⟩ : D.Pte)), k.hart, k.pool, k.asids, k.spaces, k.now, k.shared, k.fences⟩ : D.Kernel).backN (D.framesN (D.withM k.mem (⟨e1.root, 2, (⟨false, false, false, false, false, false, false, false, 0, 0, 0⟩ : D.Pte)⟩ : D.Spot) (ofN 133955584) (⟨false, false, false, false, false, false, false, false, 0, 0, 0⟩ : D.Pte)) 2 e1.root)).fences⟩ : D.Kernel) z7 z8 zz z10), .int .i64 0])) A H ?_)))))))
    have hf : D.destroyN k id = ⟨k.destroyed id.toNat e1, 0⟩ := by rw [D.destroyN, if_neg (by rw [h1]; decide), if_neg (by simpa using h2), D.Kernel.sp, he1]; rfl
    refine ⟨z7, z8, zz, z10, ?_, (by rw [hf]; exact (H.out 4 (D.memF z7 (((⟨k.conf, (D.withM k.mem (⟨e1.root, 2, (⟨false, false, false, false, false, false, false, false, 0, 0, 0⟩ : D.Pte)⟩ : D.Spot) (ofN 133955584) (⟨false, false, false, false, false, false, false, false, 0, 0, 0⟩ : D.Pte)), k.hart, k.pool, k.asids, k.spaces, k.now, k.shared, k.fences⟩ : D.Kernel).backN (D.framesN (D.withM k.mem (⟨e1.root, 2, (⟨false, false, false, false, false, false, false, false, 0, 0, 0⟩ : D.Pte)⟩ : D.Spot) (ofN 133955584) (⟨false, false, false, false, false, false, false, false, 0, 0, 0⟩ : D.Pte)) 2 e1.root)).mem.f)) kr)), (by rw [hf]; exact (H.out 3 (D.tlbF z8 (((⟨k.conf, (D.withM k.mem (⟨e1.root, 2, (⟨false, false, false, false, false, false, false, false, 0, 0, 0⟩ : D.Pte)⟩ : D.Spot) (ofN 133955584) (⟨false, false, false, false, false, false, false, false, 0, 0, 0⟩ : D.Pte)), k.hart, k.pool, k.asids, k.spaces, k.now, k.shared, k.fences⟩ : D.Kernel).backN (D.framesN (D.withM k.mem (⟨e1.root, 2, (⟨false, false, false, false, false, false, false, false, 0, 0, 0⟩ : D.Pte)⟩ : D.Spot) (ofN 133955584) (⟨false, false, false, false, false, false, false, false, 0, 0, 0⟩ : D.Pte)) 2 e1.root)).hart.tlb.sets)) kr)), (by rw [hf]; exact (H.out 0 (D.spsF zz (k.spaces.set id.toNat (⟨0, 0, false⟩ : D.Space))) kr)), (by rw [hf]; exact (H.out 1 (D.fnsF z10 (((⟨k.conf, (D.withM k.mem (⟨e1.root, 2, (⟨false, false, false, false, false, false, false, false, 0, 0, 0⟩ : D.Pte)⟩ : D.Spot) (ofN 133955584) (⟨false, false, false, false, false, false, false, false, 0, 0, 0⟩ : D.Pte)), k.hart, k.pool, k.asids, k.spaces, k.now, k.shared, k.fences⟩ : D.Kernel).backN (D.framesN (D.withM k.mem (⟨e1.root, 2, (⟨false, false, false, false, false, false, false, false, 0, 0, 0⟩ : D.Pte)⟩ : D.Spot) (ofN 133955584) (⟨false, false, false, false, false, false, false, false, 0, 0, 0⟩ : D.Pte)) 2 e1.root)).fences)) kr))⟩
    rw [hf] <;> rfl
 ·
  have A := A.re 8 (.bool (!(k.lives id))) (.bool true) kr (by rw [h1]; rfl)
  refine Xt A (XS (XR (Xb [0, 1, 0] A H fun ac w A H => XD (XT (XW (XQ (XU (Xr [1, 0] ((.tuple #[(D.Kernel.enc k s1 s2 s3 s4), .int .i64 4])) A H ?_))))))))
  have hf : D.destroyN k id = ⟨k, 4⟩ := by rw [D.destroyN, if_pos h1]
  refine ⟨s1, s2, s3, s4, ?_, (by rw [hf]; exact (H.out 3 (D.memF s1 k.mem.f) kr)), (by rw [hf]; exact (H.out 2 (D.tlbF s2 k.hart.tlb.sets) kr)), (by rw [hf]; exact (H.out 1 (D.spsF s3 k.spaces) kr)), (by rw [hf]; exact (H.out 0 (D.fnsF s4 k.fences) kr))⟩
  rw [hf] <;> rfl
end Go.Proofs.YtfkmcdkncmapmaaGreatDoor
set_option linter.unusedVariables false
set_option linter.unusedSimpArgs false
namespace Go.Proofs.YtfkmcdkncmapmaaGreatDoor.SX
open Go Go.RowKit
section
variable {P : Program} {w0 w : World} {bs : Boxes} {ro : Rd}
theorem Own.putObj (h : Own w0 w bs ro) {j B : Nat} {o : Obj} (hj : bs[j]? = some (B, o)) (o' : Obj) : Own w0 (w.putObj B o') (setNth bs j (B, o')) ro := by
 have hm := List.mem_of_getElem? hj
 have hlt := getElem?_lt (h.has _ hm)
 have hmap := setNth_map (·.1) bs j (B, o') _ hj rfl
 have hB : w0.heap.size ≤ B := h.fresh _ hm
 have hoth : ∀ k, k ≠ B → (w.putObj B o').heap[k]? = w.heap[k]? := fun k hk => World.putObj_heap_other hk
 refine ⟨⟨h.below.os, h.below.tape, h.below.output, ?_, fun k hk => ?_⟩, fun p hp => ?_, fun p hp => ?_, ?_, fun r hr => ?_, fun p hp => ?_, fun b hb => ⟨?_, ?_⟩⟩
 · have := h.below.size; simpa using this
 · rw [hoth _ ko]; exact h.below.block k hk
 · rcases mem_setNth _ _ _ _ hp with rfl | ⟨i, hne, hi⟩
   · exact World.putObj_heap_same hlt
   · have hb : p.1 ≠ B := nodup_ne (l := bs.map (·.1)) h.nodup (by simp [hi]) (by simp [hj]) hne
     rw [hoth _ hb]
     exact h.has _ (List.mem_of_getElem? hi)
 · rcases mem_setNth _ _ _ _ hp with rfl | ⟨i, hne, hi⟩
   · exact hB
   · exact h.fresh _ (List.mem_of_getElem? hi)
 · rw [hmap]; exact h.nodup
 · rw [hmap]
   refine r.st _ _ _ _ (fun b o hn hb => ⟨hn, ?_⟩) (h.hro r hr)
   rw [hoth _ (fun e => hn (List.mem_append_left _ (List.mem_map.2 ⟨_, hm, e.symm⟩)))]; exact hb
 · rw [hmap]
   obtain ⟨hb, hn⟩ := h.hfb p hp
   exact ⟨by rw [hoth _ (fun e => hn (List.mem_map.2 ⟨_, hm, e.symm⟩))]; exact hb, hn⟩
 · simpa using (h.hno b hb).1
 · rw [hmap]; exact (h.hno b hb).2
theorem run_checkKey {kt : TypeId} {kd : IntKind} {q : IntKind} {x : Int} (e : Bool) (hk : P.underlying kt = some (.int kd)) : (Instr.checkKey e 10000 kt (.int q x)).run P w = .ok () w := by
 show (Instr.checkKey e (9999 + 1) kt (.int q x)).run P w = .ok () w
 unfold Instr.checkKey
 simp only [Sem.run_bind, run_und hk, Result.andThen_ok, Sem.run_pure]
theorem run_insert {mt kt et : TypeId} {kd q : IntKind} {x : Int} {v : Value} {b clock : Nat} {es : Array MapEntry} (hu : P.underlying mt = some (.map kt et)) (hk : P.underlying kt = some (.int kd)) (hb : w.heap[b]? = some (.map es clock))
 (hn : Instr.findNow (.int kd) (.int q x) es.toList 0 = some none) : (semU (Instr.mapUpdate mt (.map (some b)) (.int q x) v)).run P w = .ok .skip (w.putObj b (.map (es.push ⟨.int q x, v, clock⟩) (clock + 1))) := by
 have h1 : (Instr.findKey kt (.int q x) es.toList).run P w = .ok none w := MapKept.run_findKey hk hn
 unfold semU Instr.mapUpdate
 simp only [Sem.run_bind, run_und hu, Result.andThen_ok, MapKept.run_getObj_map hb, run_checkKey false hk, h1, MapKept.run_setObj_map _ hb, Sem.run_pure]
 rfl
theorem run_lookup {mt kt et : TypeId} {kd q : IntKind} {x : Int} {v : Value} {b clock i : Nat} {es : Array MapEntry} (hu : P.underlying mt = some (.map kt et)) (hk : P.underlying kt = some (.int kd)) (hb : w.heap[b]? = some (.map es clock))
 (hn : Instr.findNow (.int kd) (.int q x) es.toList 0 = some (some (i, v))) : (semB (Instr.lookup mt (.map (some b)) (.int q x) true)).run P w = .ok (.value (.tuple #[v, .bool true])) w := by
 have h1 : (Instr.findKey kt (.int q x) es.toList).run P w = .ok (some (i, v)) w := MapKept.run_findKey hk hn
 refine run_semB ?_
 unfold Instr.lookup
 simp only [Sem.run_bind, run_und hu, Result.andThen_ok, MapKept.run_getObj_map hb, Sem.run_pure, run_checkKey es.isEmpty hk, h1]
 rfl
end
end Go.Proofs.YtfkmcdkncmapmaaGreatDoor.SX
