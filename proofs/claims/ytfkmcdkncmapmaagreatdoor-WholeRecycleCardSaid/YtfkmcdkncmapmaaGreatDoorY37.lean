/- The first space. -/
import Derived.Test.YtfkmcdkncmapmaaGreatDoorY02
import Derived.Test.YtfkmcdkncmapmaaGreatDoorY36
import Derived.Test.YtfkmcdkncmapmaaGreatDoorY35
import Derived.Test.YtfkmcdkncmapmaaGreatDoorY33
import Derived.Test.YtfkmcdkncmapmaaGreatDoorProg
set_option linter.unusedVariables false
set_option linter.unusedSimpArgs false
set_option maxRecDepth 100000
namespace Go.Proofs.YtfkmcdkncmapmaaGreatDoor
open Go Go.RowKit
namespace D
theorem newP_bit {c : Conf} (hc : Cd c) (i : Nat) : (newP c).free.testBit i = decide (i < c.pool.toNat) := by
 show (Bits.getN 18446744073709551615 0 c.pool.toNat).testBit i = _
 rw [Bits.testBit_getN _ _ _ _ kc]
 have h2 := hc.p2
 by_cases hi : i < c.pool.toNat
 · have : (18446744073709551615 : Nat).testBit (0 + i) = true := by
     rw [show (18446744073709551615 : Nat) = 2 ^ 64 - 1 by decide, Nat.testBit_two_pow_sub_one]
     simp; omega
   rw [this]; simp
 · simp [hi]
theorem newP_lt (c : Conf) : (newP c).free < 18446744073709551616 := Bits.getN_lt _ _ _ kc
theorem newP_ne {c : Conf} (hc : Cd c) : (newP c).free ≠ 0 := fun e => by
 have h := newP_bit hc 0
 rw [e] at h
 have := hc.p1
 simp at h; omega
theorem newP_ctz {c : Conf} (hc : Cd c) : ctz (newP c).free = 0 := ctz_some _ 0 kc (by rw [newP_bit hc]; have := hc.p1; simp; omega) (fun j hj => by omega)
theorem newP_next {c : Conf} (hc : Cd c) : (newP c).next = c.data.toNat := by
 unfold Pool.next
 rw [newP_ctz hc]; rfl
theorem newP_take {c : Conf} (hc : Cd c) : PBack c.data.toNat ((c.pool.toNat : Nat) : Int) (newP c).take := by
 unfold Pool.take
 rw [if_neg (newP_ne hc), newP_ctz hc]
 refine ⟨rfl, rfl, Bits.setN_lt _ _ _ _, ?_, ?_⟩
 · show (Bits.setN _ 0 1 0).testBit 0 = false
   rw [Bits.testBit_setN _ _ _ _ _ (newP_lt c), if_pos ko]; simp
 · show (Bits.setN _ 0 1 0).testBit 1 = true
   rw [Bits.testBit_setN _ _ _ _ _ (newP_lt c), if_neg ko, newP_bit hc]
   have := hc.p1
   simp; omega
theorem PBack.take {d : Nat} {n : Int} {p : Pool} (h : PBack d n p) : PInv d n p.take := by
 have hc : ctz p.free = 1 := ctz_some p.free 1 kc h.b1 (fun j hj => by rw [show j = 0 by omega]; exact h.b0)
 unfold Pool.take
 rw [if_neg h.ne, hc]
 refine ⟨h.base, h.many, Bits.setN_lt _ _ _ _, ?_, ?_⟩
 · show (Bits.setN p.free 1 1 0).testBit 0 = false
   rw [Bits.testBit_setN _ _ _ _ _ h.lt, if_neg ko]; exact h.b0
 · show (Bits.setN p.free 1 1 0).testBit 1 = false
   rw [Bits.testBit_setN _ _ _ _ _ h.lt, if_pos ko]; simp
theorem newM_zero {c : Conf} (hc : Cd c) (j : Nat) : (freshM (newM c) (newP c)).f j = 0 := by
 unfold freshM
 rw [if_neg (newP_ne hc), clr_f]
 split <;> rfl
theorem new_asids {c : Conf} (hc : Cd c) : (newK c).asids = ⟨1, 1, 0⟩ := by
 show (⟨((c.asids.toNat : Nat) : Int), Bits.getN 18446744073709551615 0 c.asids.toNat, 0⟩ : Asids) = _
 rw [hc.a]
 exact congrArg (fun x => (⟨1, x, 0⟩ : Asids)) (by decide +kernel)
theorem new_shared {c : Conf} (hc : Cd c) : (newK c).shared = c.data.toNat := by
 show (if (newP c).free = 0 then 0 else (newP c).next) = _
 rw [if_neg (newP_ne hc), newP_next hc]
theorem first_is {c : Conf} (hc : Cd c) : createN (newK c) = ⟨⟨c, withM (freshM (freshM (newM c) (newP c)) (newP c).take) ⟨c.data.toNat + 1, 2, Pte.zero⟩ (ofN 133955584) (linkP c.data.toNat), (newK c).hart, (newP c).take.take, ⟨1, 0, 1⟩, [⟨c.data.toNat + 1, 1, true⟩], -1, c.data.toNat, []⟩, 0, 0⟩ := by
 have hp := newP_take hc
 have hn : (newK c).newRoot = c.data.toNat + 1 := by
  unfold Kernel.newRoot
  show (if (newP c).take.free = 0 then 0 else (newP c).take.next) = _
  rw [if_neg hp.ne, hp.next]
 have hm : (newK c).newNum = 1 := by unfold Kernel.newNum; rw [new_asids hc]; decide +kernel
 have ho : (newK c).newOwned = false := by unfold Kernel.newOwned; rw [new_asids hc]; decide +kernel
 have ht : (newK c).asids.take = ⟨1, 0, 1⟩ := by
  rw [new_asids hc]
  unfold Asids.take
  rw [if_neg kc]
  have e1 : Bits.setN 1 (ctz 1) 1 0 = 0 := by decide +kernel
  have e2 : Bits.setN 0 (ctz 1) 1 1 = 1 := by decide +kernel
  show (⟨1, Bits.setN 1 (ctz 1) 1 0, Bits.setN 0 (ctz 1) 1 1⟩ : Asids) = _
  rw [e1, e2]
 rw [createN, if_neg (show ¬ 32 ≤ (newK c).spaces.length from (by decide : ¬ 32 ≤ ([] : List Space).length)), if_neg (by rw [new_asids hc]; decide), if_neg (show ¬ (newK c).pool.free = 0 from hp.ne), if_neg (by rw [ho]; decide)]
 have hmade : (newK c).made = ⟨c, withM (freshM (freshM (newM c) (newP c)) (newP c).take) ⟨c.data.toNat + 1, 2, Pte.zero⟩ (ofN 133955584) (linkP c.data.toNat), (newK c).hart, (newP c).take.take, ⟨1, 0, 1⟩, [⟨c.data.toNat + 1, 1, true⟩], -1, c.data.toNat, []⟩ := by
  unfold Kernel.made
  rw [hn, hm, ht, new_shared hc]
  rfl
 rw [hmade]
 rfl
theorem lives0 {k : Kernel} {r n : Nat} (h : k.spaces = [⟨r, n, true⟩]) : k.lives 0 = true := by
 unfold Kernel.lives Kernel.sp
 rw [h]
 rfl
theorem first_inv {c : Conf} (hc : Cd c) : (createN (newK c)).err = 0 ∧ (createN (newK c)).id = 0 ∧ (switchN (createN (newK c)).k 0).err = 0 ∧ RInv c (switchN (createN (newK c)).k 0).k := by
 rw [first_is hc]
 refine ⟨rfl, rfl, ?_⟩
 rw [switchN, if_neg kc, if_neg (by rw [lives0 rfl]; decide)]
 have hp := newP_take hc
 refine ⟨rfl, rfl, made_inv hc.d (newM_zero hc) (freshM_size _ _) hp.ne hp.next hc.sz, ?_, rfl, hp.take, rfl, rfl, rfl, rfl, rfl⟩
 refine ⟨?_, fun s hs => ?_⟩
 · show (List.replicate c.sets.toNat Set.zero).length ≤ 16
   rw [List.length_replicate]; have := hc.s2; omega
 · have := List.eq_of_mem_replicate (show s ∈ List.replicate c.sets.toNat Set.zero from hs)
   rw [this]; exact zero_set1
/-! ### What the callees ask -/
theorem PInv.ok {d : Nat} {n : Int} {p : Pool} (h : PInv d n p) (hd : d ≤ 524288) (hn : 0 ≤ n ∧ n ≤ 64) : p.Ok := ⟨by rw [h.base]; exact hd, by rw [h.many]; exact hn, h.lt⟩
theorem PBack.ok {d : Nat} {n : Int} {p : Pool} (h : PBack d n p) (hd : d ≤ 524288) (hn : 0 ≤ n ∧ n ≤ 64) : p.Ok := ⟨by rw [h.base]; exact hd, by rw [h.many]; exact hn, h.lt⟩
theorem Cd.n {c : Conf} (h : Cd c) : (0 : Int) ≤ ((c.pool.toNat : Nat) : Int) ∧ ((c.pool.toNat : Nat) : Int) ≤ 64 := by have := h.p2; have := h.p1; omega
end D
end Go.Proofs.YtfkmcdkncmapmaaGreatDoor
set_option linter.unusedVariables false
set_option linter.unusedSimpArgs false
set_option maxRecDepth 100000
set_option maxHeartbeats 2000000
namespace Go.Proofs.YtfkmcdkncmapmaaGreatDoor
open Go Go.RowKit
def SX.objF (b : Nat) (o : Obj) : SX.Fact := ⟨fun w no => b ∉ no ∧ w.heap[b]? = some o, fun w w' no no' hk h => hk b o h.1 h.2⟩
theorem SX.Own.fresh_no {w0 w : World} {bs : SX.Boxes} {ro : SX.Rd} (H : SX.Own w0 w bs ro) {b : Nat} (hb : w.heap.size ≤ b) : b ∉ SX.nos H := fun h => by
 have := H.nos_lt b h
 omega
theorem Step0 (k : D.Kernel) (o : D.Op)  {no : List Nat} (s1 s2 s3 s4 : SX.Sl) (w0 : World) (hno : ∀ b ∈ no, b < w0.heap.size) (hs1 : (D.memF s1 k.mem.f).P w0 no) (hs2 : (D.tlbF s2 k.hart.tlb.sets).P w0 no) (hs3 : (D.spsF s3 k.spaces).P w0 no) (hs4 : (D.fnsF s4 k.fences).P w0 no) (hL : Ld w0) (hk0 : o.kind = 0) (hp : k.pool.Ok) (ha : k.asids.Ok) (hms : k.mem.size ≤ 1099511627776) (ht : k.hart.tlb.Ok) (hsh : k.shared < 18446744073709551616) (hfn : k.fences.length < 900000) : SX.Rets Tryz.prog 10 #[(D.Kernel.enc k s1 s2 s3 s4), (D.Op.enc o)] w0 (fun r_ w => ∃ y1 y2 y3 y4 : SX.Sl, r_ = (.tuple #[(D.Kernel.enc ((D.createN k).k) y1 y2 y3 y4), (D.Answer.enc (D.Answer.of (D.createN k).err (((D.createN k).id : Nat) : Int)))]) ∧ (D.memF y1 (((D.createN k).k).mem.f)).P w no ∧ (D.tlbF y2 (((D.createN k).k).hart.tlb.sets)).P w no ∧ (D.spsF y3 (((D.createN k).k).spaces)).P w no ∧ (D.fnsF y4 (((D.createN k).k).fences)).P w no) := by
 refine SX.enterN (args := [(D.Kernel.enc k s1 s2 s3 s4), (D.Op.enc o)]) (hno := hno) 25 Tryz.func10 rfl kr fun ac A H => ?_
 have H := H.known (D.memF s1 k.mem.f) hs1
 have H := H.known (D.tlbF s2 k.hart.tlb.sets) hs2
 have H := H.known (D.spsF s3 k.spaces) hs3
 have H := H.known (D.fnsF s4 k.fences) hs4
 refine XS (XR (Xb [0, 0, 0, 0] A H fun ac w A H => XD (XT (XS (SX.drawn 9 [1] kr A H fun w H => SX.takes [1] [(1, none), (2, some 0)] A H kr kd kr kr kr (Or.inl kr) fun ac A => ?_)))))
 have A := A.re 11 (.int .i64 (o.kind)) (.int .i64 0) kr (by rw [hk0])
 have hno_ := fun (b : Nat) (hb : w.heap.size ≤ b) => SX.Own.fresh_no H hb
 refine SX.callD 0 [1] A H (deeds_calls w) kr kr kr kr (Or.inl kr) ?_
 rintro _ ac w ⟨b, B1_, B2_, B3_, B4_, B5_, B7_, B8_, B9_, B10_, rfl, hlb, hbm, ⟨hl1, hb1⟩, ⟨hl2, hb2⟩, ⟨hl3, hb3⟩, ⟨hl4, hb4⟩, ⟨hl5, hb5⟩, ⟨hl7, hb7⟩, ⟨hl8, hb8⟩, ⟨hl9, hb9⟩, ⟨hl10, hb10⟩⟩ A H
 have H := H.learn (SX.objF b (.map (deedsMap B1_ B2_ B3_ B4_ B5_ B7_ B8_ B9_ B10_) 11)) ⟨hno_ _ hlb, hbm⟩
 have hmap := (H.fact' 0 (SX.objF b (.map (deedsMap B1_ B2_ B3_ B4_ B5_ B7_ B8_ B9_ B10_) 11)) kr).2
 have hrun := SX.run_lookup (P := Tryz.prog) (mt := 97) (kt := 3) (et := 95) (kd := .i64) (q := .i64) (x := 0) (v := .func (.func 71) #[] #[]) (b := b) (clock := 11) (i := 0) (es := deedsMap B1_ B2_ B3_ B4_ B5_ B7_ B8_ B9_ B10_) Tryz.underlying97 Tryz.underlying3 hmap kr
 refine SX.actG 3 [1] A hrun H kr kr kr kr (Or.inl kr) (k := 1) fun ac A => SX.takes [1] [(4, none), (5, none), (6, none), (7, none), (8, none)] A H kr kd kr kr kr (Or.inl kr) (k := 1) fun ac A => ?_
 refine SX.doneD kr ?_ _
 refine XT (XS (XS (XR (Xb [0, 0] A H fun ac w A H => XD (XT (Xf A (XK (XT (XS (XR (Xb [0, 0, 1] A H fun ac w A H => SX.call A H (create_deed k o s1 s2 s3 s4 w H.nos_lt (H.fact' 4 (D.memF s1 k.mem.f) kr) (H.fact' 3 (D.tlbF s2 k.hart.tlb.sets) kr) (H.fact' 2 (D.spsF s3 k.spaces) kr) (H.fact' 1 (D.fnsF s4 k.fences) kr) (hL.below H.below) (by assumption) (by assumption) (by first | assumption | omega) (by assumption) (by first | assumption | omega) (by first | assumption | omega)) kr kr ?_)))))))))))
 rintro _ ac w ⟨z5, z6, z7, z8, rfl, hz5, hz6, hz7, hz8⟩ A H
 have H := H.learn (D.memF z5 (((D.createN k).k).mem.f)) hz5
 have H := H.learn (D.tlbF z6 (((D.createN k).k).hart.tlb.sets)) hz6
 have H := H.learn (D.spsF z7 (((D.createN k).k).spaces)) hz7
 have H := H.learn (D.fnsF z8 (((D.createN k).k).fences)) hz8
 refine Xb [0, 0, 2, 3] A H fun ac w A H => XD (XT (XW (Xr [2, 3] ((.tuple #[(D.Kernel.enc ((D.createN k).k) z5 z6 z7 z8), (D.Answer.enc (D.Answer.of (D.createN k).err (((D.createN k).id : Nat) : Int)))])) A H ?_)))
 refine ⟨z5, z6, z7, z8, ?_, (H.out 3 (D.memF z5 (((D.createN k).k).mem.f)) kr), (H.out 2 (D.tlbF z6 (((D.createN k).k).hart.tlb.sets)) kr), (H.out 1 (D.spsF z7 (((D.createN k).k).spaces)) kr), (H.out 0 (D.fnsF z8 (((D.createN k).k).fences)) kr)⟩
 rfl
theorem Step1 (k : D.Kernel) (o : D.Op)  {no : List Nat} (s1 s2 s3 s4 : SX.Sl) (w0 : World) (hno : ∀ b ∈ no, b < w0.heap.size) (hs1 : (D.memF s1 k.mem.f).P w0 no) (hs2 : (D.tlbF s2 k.hart.tlb.sets).P w0 no) (hs3 : (D.spsF s3 k.spaces).P w0 no) (hs4 : (D.fnsF s4 k.fences).P w0 no) (hL : Ld w0) (hk0 : o.kind = 1) (hp : k.pool.Ok) (ha : k.asids.Ok) (hms : k.mem.size ≤ 1099511627776) (hrt : ∀ s ∈ k.spaces, s.root < 4503599627370495 ∧ s.asid < 18446744073709551616) (hns : k.spaces.length ≤ 32) : SX.Rets Tryz.prog 10 #[(D.Kernel.enc k s1 s2 s3 s4), (D.Op.enc o)] w0 (fun r_ w => ∃ y1 y2 y3 y4 : SX.Sl, r_ = (.tuple #[(D.Kernel.enc ((D.destroyN k o.id).k) y1 y2 y3 y4), (D.Answer.enc (D.Answer.of (D.destroyN k o.id).err 0))]) ∧ (D.memF y1 (((D.destroyN k o.id).k).mem.f)).P w no ∧ (D.tlbF y2 (((D.destroyN k o.id).k).hart.tlb.sets)).P w no ∧ (D.spsF y3 (((D.destroyN k o.id).k).spaces)).P w no ∧ (D.fnsF y4 (((D.destroyN k o.id).k).fences)).P w no) := by
 refine SX.enterN (args := [(D.Kernel.enc k s1 s2 s3 s4), (D.Op.enc o)]) (hno := hno) 25 Tryz.func10 rfl kr fun ac A H => ?_
 have H := H.known (D.memF s1 k.mem.f) hs1
 have H := H.known (D.tlbF s2 k.hart.tlb.sets) hs2
 have H := H.known (D.spsF s3 k.spaces) hs3
 have H := H.known (D.fnsF s4 k.fences) hs4
 refine XS (XR (Xb [0, 0, 0, 0] A H fun ac w A H => XD (XT (XS (SX.drawn 9 [1] kr A H fun w H => SX.takes [1] [(1, none), (2, some 0)] A H kr kd kr kr kr (Or.inl kr) fun ac A => ?_)))))
 have A := A.re 11 (.int .i64 (o.kind)) (.int .i64 1) kr (by rw [hk0])
 have hno_ := fun (b : Nat) (hb : w.heap.size ≤ b) => SX.Own.fresh_no H hb
 refine SX.callD 0 [1] A H (deeds_calls w) kr kr kr kr (Or.inl kr) ?_
 rintro _ ac w ⟨b, B1_, B2_, B3_, B4_, B5_, B7_, B8_, B9_, B10_, rfl, hlb, hbm, ⟨hl1, hb1⟩, ⟨hl2, hb2⟩, ⟨hl3, hb3⟩, ⟨hl4, hb4⟩, ⟨hl5, hb5⟩, ⟨hl7, hb7⟩, ⟨hl8, hb8⟩, ⟨hl9, hb9⟩, ⟨hl10, hb10⟩⟩ A H
 have H := H.learn (SX.objF B1_ (.cells #[.func (.func 73) #[] #[]] 151 (0, 0))) ⟨hno_ _ hl1, hb1⟩
 have H := H.learn (SX.objF b (.map (deedsMap B1_ B2_ B3_ B4_ B5_ B7_ B8_ B9_ B10_) 11)) ⟨hno_ _ hlb, hbm⟩
 have hmap := (H.fact' 0 (SX.objF b (.map (deedsMap B1_ B2_ B3_ B4_ B5_ B7_ B8_ B9_ B10_) 11)) kr).2
 have hrun := SX.run_lookup (P := Tryz.prog) (mt := 97) (kt := 3) (et := 95) (kd := .i64) (q := .i64) (x := 1) (v := .func (.func 123) #[] #[.pointer (some ⟨B1_, 0, none⟩)]) (b := b) (clock := 11) (i := 1) (es := deedsMap B1_ B2_ B3_ B4_ B5_ B7_ B8_ B9_ B10_) Tryz.underlying97 Tryz.underlying3 hmap kr
 refine SX.actG 3 [1] A hrun H kr kr kr kr (Or.inl kr) (k := 2) fun ac A => ?_
 skip
 refine SX.takes [1] [(4, none), (5, none), (6, none), (7, none), (8, none)] A H kr kd kr kr kr (Or.inl kr) (k := 2) fun ac A => ?_
 refine SX.doneD kr ?_ _
 refine XT (XS (XS (XR (Xb [0, 0] A H fun ac w A H => XD (XT (Xf A (XK (XT (XS (XR (Xb [0, 0, 1] A H fun ac w A H => SX.call A H (plain73 k o s1 s2 s3 s4 w H.nos_lt (H.fact' 5 (D.memF s1 k.mem.f) kr) (H.fact' 4 (D.tlbF s2 k.hart.tlb.sets) kr) (H.fact' 3 (D.spsF s3 k.spaces) kr) (H.fact' 2 (D.fnsF s4 k.fences) kr) (hL.below H.below) B1_ 151 (0, 0) (H.fact' 1 (SX.objF B1_ (.cells #[.func (.func 73) #[] #[]] 151 (0, 0))) kr).2 (by assumption) (by assumption) (by first | assumption | omega) (by assumption) (by first | assumption | omega)) kr kr ?_)))))))))))
 rintro _ ac w ⟨z5, z6, z7, z8, rfl, hz5, hz6, hz7, hz8⟩ A H
 have H := H.learn (D.memF z5 (((D.destroyN k o.id).k).mem.f)) hz5
 have H := H.learn (D.tlbF z6 (((D.destroyN k o.id).k).hart.tlb.sets)) hz6
 have H := H.learn (D.spsF z7 (((D.destroyN k o.id).k).spaces)) hz7
 have H := H.learn (D.fnsF z8 (((D.destroyN k o.id).k).fences)) hz8
 refine Xb [0, 0, 2, 3] A H fun ac w A H => XD (XT (XW (Xr [2, 3] ((.tuple #[(D.Kernel.enc ((D.destroyN k o.id).k) z5 z6 z7 z8), (D.Answer.enc (D.Answer.of (D.destroyN k o.id).err 0))])) A H ?_)))
 refine ⟨z5, z6, z7, z8, ?_, (H.out 3 (D.memF z5 (((D.destroyN k o.id).k).mem.f)) kr), (H.out 2 (D.tlbF z6 (((D.destroyN k o.id).k).hart.tlb.sets)) kr), (H.out 1 (D.spsF z7 (((D.destroyN k o.id).k).spaces)) kr), (H.out 0 (D.fnsF z8 (((D.destroyN k o.id).k).fences)) kr)⟩
 rfl
theorem Step2 (k : D.Kernel) (o : D.Op)  {no : List Nat} (s1 s2 s3 s4 : SX.Sl) (w0 : World) (hno : ∀ b ∈ no, b < w0.heap.size) (hs1 : (D.memF s1 k.mem.f).P w0 no) (hs2 : (D.tlbF s2 k.hart.tlb.sets).P w0 no) (hs3 : (D.spsF s3 k.spaces).P w0 no) (hs4 : (D.fnsF s4 k.fences).P w0 no) (hk0 : o.kind = 2) : SX.Rets Tryz.prog 10 #[(D.Kernel.enc k s1 s2 s3 s4), (D.Op.enc o)] w0 (fun r_ w => ∃ y1 y2 y3 y4 : SX.Sl, r_ = (.tuple #[(D.Kernel.enc ((D.switchN k o.id).k) y1 y2 y3 y4), (D.Answer.enc (D.Answer.of (D.switchN k o.id).err 0))]) ∧ (D.memF y1 (((D.switchN k o.id).k).mem.f)).P w no ∧ (D.tlbF y2 (((D.switchN k o.id).k).hart.tlb.sets)).P w no ∧ (D.spsF y3 (((D.switchN k o.id).k).spaces)).P w no ∧ (D.fnsF y4 (((D.switchN k o.id).k).fences)).P w no) := by
 refine SX.enterN (args := [(D.Kernel.enc k s1 s2 s3 s4), (D.Op.enc o)]) (hno := hno) 25 Tryz.func10 rfl kr fun ac A H => ?_
 have H := H.known (D.memF s1 k.mem.f) hs1
 have H := H.known (D.tlbF s2 k.hart.tlb.sets) hs2
 have H := H.known (D.spsF s3 k.spaces) hs3
 have H := H.known (D.fnsF s4 k.fences) hs4
 refine XS (XR (Xb [0, 0, 0, 0] A H fun ac w A H => XD (XT (XS (SX.drawn 9 [1] kr A H fun w H => SX.takes [1] [(1, none), (2, some 0)] A H kr kd kr kr kr (Or.inl kr) fun ac A => ?_)))))
 have A := A.re 11 (.int .i64 (o.kind)) (.int .i64 2) kr (by rw [hk0])
 have hno_ := fun (b : Nat) (hb : w.heap.size ≤ b) => SX.Own.fresh_no H hb
 refine SX.callD 0 [1] A H (deeds_calls w) kr kr kr kr (Or.inl kr) ?_
 rintro _ ac w ⟨b, B1_, B2_, B3_, B4_, B5_, B7_, B8_, B9_, B10_, rfl, hlb, hbm, ⟨hl1, hb1⟩, ⟨hl2, hb2⟩, ⟨hl3, hb3⟩, ⟨hl4, hb4⟩, ⟨hl5, hb5⟩, ⟨hl7, hb7⟩, ⟨hl8, hb8⟩, ⟨hl9, hb9⟩, ⟨hl10, hb10⟩⟩ A H
 have H := H.learn (SX.objF B2_ (.cells #[.func (.func 74) #[] #[]] 151 (0, 0))) ⟨hno_ _ hl2, hb2⟩
 have H := H.learn (SX.objF b (.map (deedsMap B1_ B2_ B3_ B4_ B5_ B7_ B8_ B9_ B10_) 11)) ⟨hno_ _ hlb, hbm⟩
 have hmap := (H.fact' 0 (SX.objF b (.map (deedsMap B1_ B2_ B3_ B4_ B5_ B7_ B8_ B9_ B10_) 11)) kr).2
 have hrun := SX.run_lookup (P := Tryz.prog) (mt := 97) (kt := 3) (et := 95) (kd := .i64) (q := .i64) (x := 2) (v := .func (.func 123) #[] #[.pointer (some ⟨B2_, 0, none⟩)]) (b := b) (clock := 11) (i := 2) (es := deedsMap B1_ B2_ B3_ B4_ B5_ B7_ B8_ B9_ B10_) Tryz.underlying97 Tryz.underlying3 hmap kr
 refine SX.actG 3 [1] A hrun H kr kr kr kr (Or.inl kr) (k := 2) fun ac A => ?_
 skip
 refine SX.takes [1] [(4, none), (5, none), (6, none), (7, none), (8, none)] A H kr kd kr kr kr (Or.inl kr) (k := 2) fun ac A => ?_
 refine SX.doneD kr ?_ _
 refine XT (XS (XS (XR (Xb [0, 0] A H fun ac w A H => XD (XT (Xf A (XK (XT (XS (XR (Xb [0, 0, 1] A H fun ac w A H => SX.call A H (plain74 k o s1 s2 s3 s4 w H.nos_lt (H.fact' 5 (D.memF s1 k.mem.f) kr) (H.fact' 4 (D.tlbF s2 k.hart.tlb.sets) kr) (H.fact' 3 (D.spsF s3 k.spaces) kr) (H.fact' 2 (D.fnsF s4 k.fences) kr) B2_ 151 (0, 0) (H.fact' 1 (SX.objF B2_ (.cells #[.func (.func 74) #[] #[]] 151 (0, 0))) kr).2) kr kr ?_)))))))))))
 rintro _ ac w ⟨z5, z6, z7, z8, rfl, hz5, hz6, hz7, hz8⟩ A H
 have H := H.learn (D.memF z5 (((D.switchN k o.id).k).mem.f)) hz5
 have H := H.learn (D.tlbF z6 (((D.switchN k o.id).k).hart.tlb.sets)) hz6
 have H := H.learn (D.spsF z7 (((D.switchN k o.id).k).spaces)) hz7
 have H := H.learn (D.fnsF z8 (((D.switchN k o.id).k).fences)) hz8
 refine Xb [0, 0, 2, 3] A H fun ac w A H => XD (XT (XW (Xr [2, 3] ((.tuple #[(D.Kernel.enc ((D.switchN k o.id).k) z5 z6 z7 z8), (D.Answer.enc (D.Answer.of (D.switchN k o.id).err 0))])) A H ?_)))
 refine ⟨z5, z6, z7, z8, ?_, (H.out 3 (D.memF z5 (((D.switchN k o.id).k).mem.f)) kr), (H.out 2 (D.tlbF z6 (((D.switchN k o.id).k).hart.tlb.sets)) kr), (H.out 1 (D.spsF z7 (((D.switchN k o.id).k).spaces)) kr), (H.out 0 (D.fnsF z8 (((D.switchN k o.id).k).fences)) kr)⟩
 rfl
theorem Step3 (k : D.Kernel) (o : D.Op)  {no : List Nat} (s1 s2 s3 s4 : SX.Sl) (w0 : World) (hno : ∀ b ∈ no, b < w0.heap.size) (hs1 : (D.memF s1 k.mem.f).P w0 no) (hs2 : (D.tlbF s2 k.hart.tlb.sets).P w0 no) (hs3 : (D.spsF s3 k.spaces).P w0 no) (hs4 : (D.fnsF s4 k.fences).P w0 no) (hL : Ld w0) (hk0 : o.kind = 3) (hp : k.pool.Ok) (hms : k.mem.size ≤ 1099511627776) (hd : 0 ≤ k.conf.data ∧ k.conf.data ≤ 524288) (hsh : k.shared < 4503599627370495) (hrt : (k.sp o.id).root < 4503599627370495) (hw : 0 ≤ o.level ∧ o.level ≤ 2) (haddr : o.va < 18446744073709551616) (hpa : o.pa < 18446744073709551616) : SX.Rets Tryz.prog 10 #[(D.Kernel.enc k s1 s2 s3 s4), (D.Op.enc o)] w0 (fun r_ w => ∃ y1 y2 y3 y4 : SX.Sl, r_ = (.tuple #[(D.Kernel.enc ((D.Kernel.mapO k o).k) y1 y2 y3 y4), (D.Answer.enc (D.Answer.of (D.Kernel.mapO k o).err 0))]) ∧ (D.memF y1 (((D.Kernel.mapO k o).k).mem.f)).P w no ∧ (D.tlbF y2 (((D.Kernel.mapO k o).k).hart.tlb.sets)).P w no ∧ (D.spsF y3 (((D.Kernel.mapO k o).k).spaces)).P w no ∧ (D.fnsF y4 (((D.Kernel.mapO k o).k).fences)).P w no) := by
 refine SX.enterN (args := [(D.Kernel.enc k s1 s2 s3 s4), (D.Op.enc o)]) (hno := hno) 25 Tryz.func10 rfl kr fun ac A H => ?_
 have H := H.known (D.memF s1 k.mem.f) hs1
 have H := H.known (D.tlbF s2 k.hart.tlb.sets) hs2
 have H := H.known (D.spsF s3 k.spaces) hs3
 have H := H.known (D.fnsF s4 k.fences) hs4
 refine XS (XR (Xb [0, 0, 0, 0] A H fun ac w A H => XD (XT (XS (SX.drawn 9 [1] kr A H fun w H => SX.takes [1] [(1, none), (2, some 0)] A H kr kd kr kr kr (Or.inl kr) fun ac A => ?_)))))
 have A := A.re 11 (.int .i64 (o.kind)) (.int .i64 3) kr (by rw [hk0])
 have hno_ := fun (b : Nat) (hb : w.heap.size ≤ b) => SX.Own.fresh_no H hb
 refine SX.callD 0 [1] A H (deeds_calls w) kr kr kr kr (Or.inl kr) ?_
 rintro _ ac w ⟨b, B1_, B2_, B3_, B4_, B5_, B7_, B8_, B9_, B10_, rfl, hlb, hbm, ⟨hl1, hb1⟩, ⟨hl2, hb2⟩, ⟨hl3, hb3⟩, ⟨hl4, hb4⟩, ⟨hl5, hb5⟩, ⟨hl7, hb7⟩, ⟨hl8, hb8⟩, ⟨hl9, hb9⟩, ⟨hl10, hb10⟩⟩ A H
 have H := H.learn (SX.objF B3_ (.cells #[.func (.func 75) #[] #[]] 151 (0, 0))) ⟨hno_ _ hl3, hb3⟩
 have H := H.learn (SX.objF b (.map (deedsMap B1_ B2_ B3_ B4_ B5_ B7_ B8_ B9_ B10_) 11)) ⟨hno_ _ hlb, hbm⟩
 have hmap := (H.fact' 0 (SX.objF b (.map (deedsMap B1_ B2_ B3_ B4_ B5_ B7_ B8_ B9_ B10_) 11)) kr).2
 have hrun := SX.run_lookup (P := Tryz.prog) (mt := 97) (kt := 3) (et := 95) (kd := .i64) (q := .i64) (x := 3) (v := .func (.func 123) #[] #[.pointer (some ⟨B3_, 0, none⟩)]) (b := b) (clock := 11) (i := 3) (es := deedsMap B1_ B2_ B3_ B4_ B5_ B7_ B8_ B9_ B10_) Tryz.underlying97 Tryz.underlying3 hmap kr
 refine SX.actG 3 [1] A hrun H kr kr kr kr (Or.inl kr) (k := 2) fun ac A => ?_
 skip
 refine SX.takes [1] [(4, none), (5, none), (6, none), (7, none), (8, none)] A H kr kd kr kr kr (Or.inl kr) (k := 2) fun ac A => ?_
 refine SX.doneD kr ?_ _
 refine XT (XS (XS (XR (Xb [0, 0] A H fun ac w A H => XD (XT (Xf A (XK (XT (XS (XR (Xb [0, 0, 1] A H fun ac w A H => SX.call A H (plain75 k o s1 s2 s3 s4 w H.nos_lt (H.fact' 5 (D.memF s1 k.mem.f) kr) (H.fact' 4 (D.tlbF s2 k.hart.tlb.sets) kr) (H.fact' 3 (D.spsF s3 k.spaces) kr) (H.fact' 2 (D.fnsF s4 k.fences) kr) (hL.below H.below) B3_ 151 (0, 0) (H.fact' 1 (SX.objF B3_ (.cells #[.func (.func 75) #[] #[]] 151 (0, 0))) kr).2 (by assumption) (by first | assumption | omega) (by first | assumption | omega) (by first | assumption | omega) (by first | assumption | omega) ko (by first | assumption | omega) (by first | assumption | omega)) kr kr ?_)))))))))))
 rintro _ ac w ⟨z5, z6, z7, z8, rfl, hz5, hz6, hz7, hz8⟩ A H
 have H := H.learn (D.memF z5 (((D.Kernel.mapO k o).k).mem.f)) hz5
 have H := H.learn (D.tlbF z6 (((D.Kernel.mapO k o).k).hart.tlb.sets)) hz6
 have H := H.learn (D.spsF z7 (((D.Kernel.mapO k o).k).spaces)) hz7
 have H := H.learn (D.fnsF z8 (((D.Kernel.mapO k o).k).fences)) hz8
 refine Xb [0, 0, 2, 3] A H fun ac w A H => XD (XT (XW (Xr [2, 3] ((.tuple #[(D.Kernel.enc ((D.Kernel.mapO k o).k) z5 z6 z7 z8), (D.Answer.enc (D.Answer.of (D.Kernel.mapO k o).err 0))])) A H ?_)))
 refine ⟨z5, z6, z7, z8, ?_, (H.out 3 (D.memF z5 (((D.Kernel.mapO k o).k).mem.f)) kr), (H.out 2 (D.tlbF z6 (((D.Kernel.mapO k o).k).hart.tlb.sets)) kr), (H.out 1 (D.spsF z7 (((D.Kernel.mapO k o).k).spaces)) kr), (H.out 0 (D.fnsF z8 (((D.Kernel.mapO k o).k).fences)) kr)⟩
 rfl
theorem Step6 (k : D.Kernel) (o : D.Op)  {no : List Nat} (s1 s2 s3 s4 : SX.Sl) (w0 : World) (hno : ∀ b ∈ no, b < w0.heap.size) (hs1 : (D.memF s1 k.mem.f).P w0 no) (hs2 : (D.tlbF s2 k.hart.tlb.sets).P w0 no) (hs3 : (D.spsF s3 k.spaces).P w0 no) (hs4 : (D.fnsF s4 k.fences).P w0 no) (hL : Ld w0) (hk0 : o.kind = 6) (hk : k.Ok) (hva : o.va < 18446744073709551616) : SX.Rets Tryz.prog 10 #[(D.Kernel.enc k s1 s2 s3 s4), (D.Op.enc o)] w0 (fun r_ w => ∃ y1 y2 y3 y4 : SX.Sl, r_ = (.tuple #[(D.Kernel.enc ((D.accessK k o).k) y1 y2 y3 y4), (D.Answer.enc ((D.accessK k o).a))]) ∧ (D.memF y1 (((D.accessK k o).k).mem.f)).P w no ∧ (D.tlbF y2 (((D.accessK k o).k).hart.tlb.sets)).P w no ∧ (D.spsF y3 (((D.accessK k o).k).spaces)).P w no ∧ (D.fnsF y4 (((D.accessK k o).k).fences)).P w no) := by
 refine SX.enterN (args := [(D.Kernel.enc k s1 s2 s3 s4), (D.Op.enc o)]) (hno := hno) 25 Tryz.func10 rfl kr fun ac A H => ?_
 have H := H.known (D.memF s1 k.mem.f) hs1
 have H := H.known (D.tlbF s2 k.hart.tlb.sets) hs2
 have H := H.known (D.spsF s3 k.spaces) hs3
 have H := H.known (D.fnsF s4 k.fences) hs4
 refine XS (XR (Xb [0, 0, 0, 0] A H fun ac w A H => XD (XT (XS (SX.drawn 9 [1] kr A H fun w H => SX.takes [1] [(1, none), (2, some 0)] A H kr kd kr kr kr (Or.inl kr) fun ac A => ?_)))))
 have A := A.re 11 (.int .i64 (o.kind)) (.int .i64 6) kr (by rw [hk0])
 have hno_ := fun (b : Nat) (hb : w.heap.size ≤ b) => SX.Own.fresh_no H hb
 refine SX.callD 0 [1] A H (deeds_calls w) kr kr kr kr (Or.inl kr) ?_
 rintro _ ac w ⟨b, B1_, B2_, B3_, B4_, B5_, B7_, B8_, B9_, B10_, rfl, hlb, hbm, ⟨hl1, hb1⟩, ⟨hl2, hb2⟩, ⟨hl3, hb3⟩, ⟨hl4, hb4⟩, ⟨hl5, hb5⟩, ⟨hl7, hb7⟩, ⟨hl8, hb8⟩, ⟨hl9, hb9⟩, ⟨hl10, hb10⟩⟩ A H
 have H := H.learn (SX.objF b (.map (deedsMap B1_ B2_ B3_ B4_ B5_ B7_ B8_ B9_ B10_) 11)) ⟨hno_ _ hlb, hbm⟩
 have hmap := (H.fact' 0 (SX.objF b (.map (deedsMap B1_ B2_ B3_ B4_ B5_ B7_ B8_ B9_ B10_) 11)) kr).2
 have hrun := SX.run_lookup (P := Tryz.prog) (mt := 97) (kt := 3) (et := 95) (kd := .i64) (q := .i64) (x := 6) (v := .func (.func 80) #[] #[]) (b := b) (clock := 11) (i := 6) (es := deedsMap B1_ B2_ B3_ B4_ B5_ B7_ B8_ B9_ B10_) Tryz.underlying97 Tryz.underlying3 hmap kr
 refine SX.actG 3 [1] A hrun H kr kr kr kr (Or.inl kr) (k := 1) fun ac A => SX.takes [1] [(4, none), (5, none), (6, none), (7, none), (8, none)] A H kr kd kr kr kr (Or.inl kr) (k := 1) fun ac A => ?_
 refine SX.doneD kr ?_ _
 refine XT (XS (XS (XR (Xb [0, 0] A H fun ac w A H => XD (XT (Xf A (XK (XT (XS (XR (Xb [0, 0, 1] A H fun ac w A H => SX.call A H (access_calls k o s1 s2 s3 s4 w H.nos_lt (H.fact' 4 (D.memF s1 k.mem.f) kr) (H.fact' 3 (D.tlbF s2 k.hart.tlb.sets) kr) (H.fact' 2 (D.spsF s3 k.spaces) kr) (H.fact' 1 (D.fnsF s4 k.fences) kr) (hL.below H.below) (by assumption) (by first | assumption | omega)) kr kr ?_)))))))))))
 rintro _ ac w ⟨z5, z6, z7, z8, rfl, hz5, hz6, hz7, hz8⟩ A H
 have H := H.learn (D.memF z5 (((D.accessK k o).k).mem.f)) hz5
 have H := H.learn (D.tlbF z6 (((D.accessK k o).k).hart.tlb.sets)) hz6
 have H := H.learn (D.spsF z7 (((D.accessK k o).k).spaces)) hz7
 have H := H.learn (D.fnsF z8 (((D.accessK k o).k).fences)) hz8
 refine Xb [0, 0, 2, 3] A H fun ac w A H => XD (XT (XW (Xr [2, 3] ((.tuple #[(D.Kernel.enc ((D.accessK k o).k) z5 z6 z7 z8), (D.Answer.enc ((D.accessK k o).a))])) A H ?_)))
 refine ⟨z5, z6, z7, z8, ?_, (H.out 3 (D.memF z5 (((D.accessK k o).k).mem.f)) kr), (H.out 2 (D.tlbF z6 (((D.accessK k o).k).hart.tlb.sets)) kr), (H.out 1 (D.spsF z7 (((D.accessK k o).k).spaces)) kr), (H.out 0 (D.fnsF z8 (((D.accessK k o).k).fences)) kr)⟩
 rfl
theorem Step8 (k : D.Kernel) (o : D.Op)  {no : List Nat} (s1 s2 s3 s4 : SX.Sl) (w0 : World) (hno : ∀ b ∈ no, b < w0.heap.size) (hs1 : (D.memF s1 k.mem.f).P w0 no) (hs2 : (D.tlbF s2 k.hart.tlb.sets).P w0 no) (hs3 : (D.spsF s3 k.spaces).P w0 no) (hs4 : (D.fnsF s4 k.fences).P w0 no) (hL : Ld w0) (hk0 : o.kind = 8) (hk : k.Ok) (hva : o.va < 18446744073709551616) : SX.Rets Tryz.prog 10 #[(D.Kernel.enc k s1 s2 s3 s4), (D.Op.enc o)] w0 (fun r_ w => ∃ y1 y2 y3 y4 : SX.Sl, r_ = (.tuple #[(D.Kernel.enc (D.bringK k o) y1 y2 y3 y4), (D.Answer.enc (D.Answer.of 0 0))]) ∧ (D.memF y1 ((D.bringK k o).mem.f)).P w no ∧ (D.tlbF y2 ((D.bringK k o).hart.tlb.sets)).P w no ∧ (D.spsF y3 ((D.bringK k o).spaces)).P w no ∧ (D.fnsF y4 ((D.bringK k o).fences)).P w no) := by
 refine SX.enterN (args := [(D.Kernel.enc k s1 s2 s3 s4), (D.Op.enc o)]) (hno := hno) 25 Tryz.func10 rfl kr fun ac A H => ?_
 have H := H.known (D.memF s1 k.mem.f) hs1
 have H := H.known (D.tlbF s2 k.hart.tlb.sets) hs2
 have H := H.known (D.spsF s3 k.spaces) hs3
 have H := H.known (D.fnsF s4 k.fences) hs4
 refine XS (XR (Xb [0, 0, 0, 0] A H fun ac w A H => XD (XT (XS (SX.drawn 9 [1] kr A H fun w H => SX.takes [1] [(1, none), (2, some 0)] A H kr kd kr kr kr (Or.inl kr) fun ac A => ?_)))))
 have A := A.re 11 (.int .i64 (o.kind)) (.int .i64 8) kr (by rw [hk0])
 have hno_ := fun (b : Nat) (hb : w.heap.size ≤ b) => SX.Own.fresh_no H hb
 refine SX.callD 0 [1] A H (deeds_calls w) kr kr kr kr (Or.inl kr) ?_
 rintro _ ac w ⟨b, B1_, B2_, B3_, B4_, B5_, B7_, B8_, B9_, B10_, rfl, hlb, hbm, ⟨hl1, hb1⟩, ⟨hl2, hb2⟩, ⟨hl3, hb3⟩, ⟨hl4, hb4⟩, ⟨hl5, hb5⟩, ⟨hl7, hb7⟩, ⟨hl8, hb8⟩, ⟨hl9, hb9⟩, ⟨hl10, hb10⟩⟩ A H
 have H := H.learn (SX.objF B8_ (.cells #[.func (.func 82) #[] #[]] 151 (0, 0))) ⟨hno_ _ hl8, hb8⟩
 have H := H.learn (SX.objF b (.map (deedsMap B1_ B2_ B3_ B4_ B5_ B7_ B8_ B9_ B10_) 11)) ⟨hno_ _ hlb, hbm⟩
 have hmap := (H.fact' 0 (SX.objF b (.map (deedsMap B1_ B2_ B3_ B4_ B5_ B7_ B8_ B9_ B10_) 11)) kr).2
 have hrun := SX.run_lookup (P := Tryz.prog) (mt := 97) (kt := 3) (et := 95) (kd := .i64) (q := .i64) (x := 8) (v := .func (.func 123) #[] #[.pointer (some ⟨B8_, 0, none⟩)]) (b := b) (clock := 11) (i := 8) (es := deedsMap B1_ B2_ B3_ B4_ B5_ B7_ B8_ B9_ B10_) Tryz.underlying97 Tryz.underlying3 hmap kr
 refine SX.actG 3 [1] A hrun H kr kr kr kr (Or.inl kr) (k := 2) fun ac A => ?_
 skip
 refine SX.takes [1] [(4, none), (5, none), (6, none), (7, none), (8, none)] A H kr kd kr kr kr (Or.inl kr) (k := 2) fun ac A => ?_
 refine SX.doneD kr ?_ _
 refine XT (XS (XS (XR (Xb [0, 0] A H fun ac w A H => XD (XT (Xf A (XK (XT (XS (XR (Xb [0, 0, 1] A H fun ac w A H => SX.call A H (plain82 k o s1 s2 s3 s4 w H.nos_lt (H.fact' 5 (D.memF s1 k.mem.f) kr) (H.fact' 4 (D.tlbF s2 k.hart.tlb.sets) kr) (H.fact' 3 (D.spsF s3 k.spaces) kr) (H.fact' 2 (D.fnsF s4 k.fences) kr) (hL.below H.below) B8_ 151 (0, 0) (H.fact' 1 (SX.objF B8_ (.cells #[.func (.func 82) #[] #[]] 151 (0, 0))) kr).2 (by assumption) (by first | assumption | omega)) kr kr ?_)))))))))))
 rintro _ ac w ⟨z5, z6, z7, z8, rfl, hz5, hz6, hz7, hz8⟩ A H
 have H := H.learn (D.memF z5 ((D.bringK k o).mem.f)) hz5
 have H := H.learn (D.tlbF z6 ((D.bringK k o).hart.tlb.sets)) hz6
 have H := H.learn (D.spsF z7 ((D.bringK k o).spaces)) hz7
 have H := H.learn (D.fnsF z8 ((D.bringK k o).fences)) hz8
 refine Xb [0, 0, 2, 3] A H fun ac w A H => XD (XT (XW (Xr [2, 3] ((.tuple #[(D.Kernel.enc (D.bringK k o) z5 z6 z7 z8), (D.Answer.enc (D.Answer.of 0 0))])) A H ?_)))
 refine ⟨z5, z6, z7, z8, ?_, (H.out 3 (D.memF z5 ((D.bringK k o).mem.f)) kr), (H.out 2 (D.tlbF z6 ((D.bringK k o).hart.tlb.sets)) kr), (H.out 1 (D.spsF z7 ((D.bringK k o).spaces)) kr), (H.out 0 (D.fnsF z8 ((D.bringK k o).fences)) kr)⟩
 rfl
end Go.Proofs.YtfkmcdkncmapmaaGreatDoor
