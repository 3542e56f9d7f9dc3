/- Walks of functions, written by the session's own program wip/sx/sxgen.py; Lean checks them. -/
import Derived.Test.YtfkmcdkncmapmaaGreatDoorY02
import Derived.Test.YtfkmcdkncmapmaaGreatDoorY33
import Derived.Test.YtfkmcdkncmapmaaGreatDoorY34
import Derived.Test.YtfkmcdkncmapmaaGreatDoorProg
set_option linter.unusedVariables false
set_option linter.unusedSimpArgs false
set_option maxRecDepth 100000
set_option maxHeartbeats 2000000
namespace Go.Proofs.YtfkmcdkncmapmaaGreatDoor
open Go Go.RowKit
namespace D
def Answer.of (err id : Int) : Answer := ⟨err, id, ⟨0, ⟨false, 0, 0⟩⟩⟩
def Kernel.mapO (k : Kernel) (o : Op) : KErr := mapN k o.id o.va o.pa o.level.toNat o.perm
end D
theorem create_deed (k : D.Kernel) (o : D.Op)  {no : List Nat} (s1 s2 s3 s4 : SX.Sl) (w0 : World) (hno : ∀ b ∈ no, b < w0.heap.size) (hs1 : (D.memF s1 k.mem.f).P w0 no) (hs2 : (D.tlbF s2 k.hart.tlb.sets).P w0 no) (hs3 : (D.spsF s3 k.spaces).P w0 no) (hs4 : (D.fnsF s4 k.fences).P w0 no) (hL : Ld w0) (hp : k.pool.Ok) (ha : k.asids.Ok) (hms : k.mem.size ≤ 1099511627776) (ht : k.hart.tlb.Ok) (hsh : k.shared < 18446744073709551616) (hfn : k.fences.length < 900000) : SX.Rets Tryz.prog 71 #[(D.Kernel.enc k s1 s2 s3 s4), (D.Op.enc o)] w0 (fun r_ w => ∃ y1 y2 y3 y4 : SX.Sl, r_ = (.tuple #[(D.Kernel.enc ((D.createN k).k) y1 y2 y3 y4), (D.Answer.enc (D.Answer.of (D.createN k).err (((D.createN k).id : Nat) : Int)))]) ∧ (D.memF y1 (((D.createN k).k).mem.f)).P w no ∧ (D.tlbF y2 (((D.createN k).k).hart.tlb.sets)).P w no ∧ (D.spsF y3 (((D.createN k).k).spaces)).P w no ∧ (D.fnsF y4 (((D.createN k).k).fences)).P w no) := by
 refine SX.enterN (args := [(D.Kernel.enc k s1 s2 s3 s4), (D.Op.enc o)]) (hno := hno) 19 Tryz.func71 rfl kr fun ac A H => ?_
 have H := H.known (D.memF s1 k.mem.f) hs1
 have H := H.known (D.tlbF s2 k.hart.tlb.sets) hs2
 have H := H.known (D.spsF s3 k.spaces) hs3
 have H := H.known (D.fnsF s4 k.fences) hs4
 refine XS (XR (Xb [0, 0, 0, 0] A H fun ac w A H => XD (XT (XS (XR (Xb [0] A H fun ac w A H => SX.call A H (Create_calls k s1 s2 s3 s4 w H.nos_lt (H.fact' 3 (D.memF s1 k.mem.f) kr) (H.fact' 2 (D.tlbF s2 k.hart.tlb.sets) kr) (H.fact' 1 (D.spsF s3 k.spaces) kr) (H.fact' 0 (D.fnsF s4 k.fences) kr) (hL.below H.below) (by assumption) (by assumption) (by first | assumption | omega) (by assumption) (by first | assumption | omega) (by first | assumption | omega)) kr kr ?_))))))
 rintro _ ac w ⟨z5, z6, z7, z8, rfl, hz5, hz6, hz7, hz8⟩ A H
 have H := H.learn (D.memF z5 (((D.createN k).k).mem.f)) hz5
 have H := H.learn (D.tlbF z6 (((D.createN k).k).hart.tlb.sets)) hz6
 have H := H.learn (D.spsF z7 (((D.createN k).k).spaces)) hz7
 have H := H.learn (D.fnsF z8 (((D.createN k).k).fences)) hz8
 refine Xb [0, 0, 0, 0, 0, 4, 0, 0] A H fun ac w A H => XD (XT (XS (XR (Xb [4, 0, 0, 0, 2, 3] A H fun ac w A H => XD (XT (XW (Xr [2, 3] ((.tuple #[(D.Kernel.enc ((D.createN k).k) z5 z6 z7 z8), (D.Answer.enc (⟨(D.createN k).err, (((D.createN k).id : Nat) : Int), (⟨0, (⟨false, 0, 0⟩ : D.Fault)⟩ : D.Result)⟩ : D.Answer))])) A H ?_)))))))
 refine ⟨z5, z6, z7, z8, ?_, (H.out 3 (D.memF z5 (((D.createN k).k).mem.f)) kr), (H.out 2 (D.tlbF z6 (((D.createN k).k).hart.tlb.sets)) kr), (H.out 1 (D.spsF z7 (((D.createN k).k).spaces)) kr), (H.out 0 (D.fnsF z8 (((D.createN k).k).fences)) kr)⟩
 rfl
theorem deed1 (k : D.Kernel) (o : D.Op)  {no : List Nat} (s1 s2 s3 s4 : SX.Sl) (w0 : World) (hno : ∀ b ∈ no, b < w0.heap.size) (hs1 : (D.memF s1 k.mem.f).P w0 no) (hs2 : (D.tlbF s2 k.hart.tlb.sets).P w0 no) (hs3 : (D.spsF s3 k.spaces).P w0 no) (hs4 : (D.fnsF s4 k.fences).P w0 no) (hL : Ld w0) (hp : k.pool.Ok) (ha : k.asids.Ok) (hms : k.mem.size ≤ 1099511627776) (hrt : ∀ s ∈ k.spaces, s.root < 4503599627370495 ∧ s.asid < 18446744073709551616) (hns : k.spaces.length ≤ 32) : SX.Rets Tryz.prog 73 #[(D.Kernel.enc k s1 s2 s3 s4), (D.Op.enc o)] w0 (fun r_ w => ∃ y1 y2 y3 y4 : SX.Sl, r_ = (.tuple #[(D.Kernel.enc ((D.destroyN k o.id).k) y1 y2 y3 y4), .int .i64 ((D.destroyN k o.id).err)]) ∧ (D.memF y1 (((D.destroyN k o.id).k).mem.f)).P w no ∧ (D.tlbF y2 (((D.destroyN k o.id).k).hart.tlb.sets)).P w no ∧ (D.spsF y3 (((D.destroyN k o.id).k).spaces)).P w no ∧ (D.fnsF y4 (((D.destroyN k o.id).k).fences)).P w no) := by
 refine SX.enterN (args := [(D.Kernel.enc k s1 s2 s3 s4), (D.Op.enc o)]) (hno := hno) 12 Tryz.func73 rfl kr fun ac A H => ?_
 have H := H.known (D.memF s1 k.mem.f) hs1
 have H := H.known (D.tlbF s2 k.hart.tlb.sets) hs2
 have H := H.known (D.spsF s3 k.spaces) hs3
 have H := H.known (D.fnsF s4 k.fences) hs4
 refine XS (XR (Xb [0, 0, 0, 0] A H fun ac w A H => XD (XT (XS (XR (Xb [0, 0, 1] A H fun ac w A H => SX.call A H (Destroy_calls k o.id s1 s2 s3 s4 w H.nos_lt (H.fact' 3 (D.memF s1 k.mem.f) kr) (H.fact' 2 (D.tlbF s2 k.hart.tlb.sets) kr) (H.fact' 1 (D.spsF s3 k.spaces) kr) (H.fact' 0 (D.fnsF s4 k.fences) kr) (hL.below H.below) (by assumption) (by assumption) (by first | assumption | omega) (by assumption) (by first | assumption | omega)) kr kr ?_))))))
 rintro _ ac w ⟨z5, z6, z7, z8, rfl, hz5, hz6, hz7, hz8⟩ A H
 have H := H.learn (D.memF z5 (((D.destroyN k o.id).k).mem.f)) hz5
 have H := H.learn (D.tlbF z6 (((D.destroyN k o.id).k).hart.tlb.sets)) hz6
 have H := H.learn (D.spsF z7 (((D.destroyN k o.id).k).spaces)) hz7
 have H := H.learn (D.fnsF z8 (((D.destroyN k o.id).k).fences)) hz8
 refine Xb [0, 0, 2, 0] A H fun ac w A H => XD (XT (XW (Xr [2, 0] ((.tuple #[(D.Kernel.enc ((D.destroyN k o.id).k) z5 z6 z7 z8), .int .i64 ((D.destroyN k o.id).err)])) A H ?_)))
 refine ⟨z5, z6, z7, z8, ?_, (H.out 3 (D.memF z5 (((D.destroyN k o.id).k).mem.f)) kr), (H.out 2 (D.tlbF z6 (((D.destroyN k o.id).k).hart.tlb.sets)) kr), (H.out 1 (D.spsF z7 (((D.destroyN k o.id).k).spaces)) kr), (H.out 0 (D.fnsF z8 (((D.destroyN k o.id).k).fences)) kr)⟩
 rfl
theorem deed2 (k : D.Kernel) (o : D.Op)  {no : List Nat} (s1 s2 s3 s4 : SX.Sl) (w0 : World) (hno : ∀ b ∈ no, b < w0.heap.size) (hs1 : (D.memF s1 k.mem.f).P w0 no) (hs2 : (D.tlbF s2 k.hart.tlb.sets).P w0 no) (hs3 : (D.spsF s3 k.spaces).P w0 no) (hs4 : (D.fnsF s4 k.fences).P w0 no) : SX.Rets Tryz.prog 74 #[(D.Kernel.enc k s1 s2 s3 s4), (D.Op.enc o)] w0 (fun r_ w => ∃ y1 y2 y3 y4 : SX.Sl, r_ = (.tuple #[(D.Kernel.enc ((D.switchN k o.id).k) y1 y2 y3 y4), .int .i64 ((D.switchN k o.id).err)]) ∧ (D.memF y1 (((D.switchN k o.id).k).mem.f)).P w no ∧ (D.tlbF y2 (((D.switchN k o.id).k).hart.tlb.sets)).P w no ∧ (D.spsF y3 (((D.switchN k o.id).k).spaces)).P w no ∧ (D.fnsF y4 (((D.switchN k o.id).k).fences)).P w no) := by
 refine SX.enterN (args := [(D.Kernel.enc k s1 s2 s3 s4), (D.Op.enc o)]) (hno := hno) 12 Tryz.func74 rfl kr fun ac A H => ?_
 have H := H.known (D.memF s1 k.mem.f) hs1
 have H := H.known (D.tlbF s2 k.hart.tlb.sets) hs2
 have H := H.known (D.spsF s3 k.spaces) hs3
 have H := H.known (D.fnsF s4 k.fences) hs4
 refine XS (XR (Xb [0, 0, 0, 0] A H fun ac w A H => XD (XT (XS (XR (Xb [0, 0, 1] A H fun ac w A H => SX.call A H (Switch_calls k o.id s1 s2 s3 s4 w H.nos_lt (H.fact' 3 (D.memF s1 k.mem.f) kr) (H.fact' 2 (D.tlbF s2 k.hart.tlb.sets) kr) (H.fact' 1 (D.spsF s3 k.spaces) kr) (H.fact' 0 (D.fnsF s4 k.fences) kr)) kr kr ?_))))))
 rintro _ ac w ⟨z5, z6, z7, z8, rfl, hz5, hz6, hz7, hz8⟩ A H
 have H := H.learn (D.memF z5 (((D.switchN k o.id).k).mem.f)) hz5
 have H := H.learn (D.tlbF z6 (((D.switchN k o.id).k).hart.tlb.sets)) hz6
 have H := H.learn (D.spsF z7 (((D.switchN k o.id).k).spaces)) hz7
 have H := H.learn (D.fnsF z8 (((D.switchN k o.id).k).fences)) hz8
 refine Xb [0, 0, 2, 0] A H fun ac w A H => XD (XT (XW (Xr [2, 0] ((.tuple #[(D.Kernel.enc ((D.switchN k o.id).k) z5 z6 z7 z8), .int .i64 ((D.switchN k o.id).err)])) A H ?_)))
 refine ⟨z5, z6, z7, z8, ?_, (H.out 3 (D.memF z5 (((D.switchN k o.id).k).mem.f)) kr), (H.out 2 (D.tlbF z6 (((D.switchN k o.id).k).hart.tlb.sets)) kr), (H.out 1 (D.spsF z7 (((D.switchN k o.id).k).spaces)) kr), (H.out 0 (D.fnsF z8 (((D.switchN k o.id).k).fences)) kr)⟩
 rfl
theorem deed3 (k : D.Kernel) (o : D.Op)  {no : List Nat} (s1 s2 s3 s4 : SX.Sl) (w0 : World) (hno : ∀ b ∈ no, b < w0.heap.size) (hs1 : (D.memF s1 k.mem.f).P w0 no) (hs2 : (D.tlbF s2 k.hart.tlb.sets).P w0 no) (hs3 : (D.spsF s3 k.spaces).P w0 no) (hs4 : (D.fnsF s4 k.fences).P w0 no) (hL : Ld w0) (hp : k.pool.Ok) (hms : k.mem.size ≤ 1099511627776) (hd : 0 ≤ k.conf.data ∧ k.conf.data ≤ 524288) (hsh : k.shared < 4503599627370495) (hrt : (k.sp o.id).root < 4503599627370495) (hw : 0 ≤ o.level ∧ o.level ≤ 2) (haddr : o.va < 18446744073709551616) (hpa : o.pa < 18446744073709551616) : SX.Rets Tryz.prog 75 #[(D.Kernel.enc k s1 s2 s3 s4), (D.Op.enc o)] w0 (fun r_ w => ∃ y1 y2 y3 y4 : SX.Sl, r_ = (.tuple #[(D.Kernel.enc ((D.Kernel.mapO k o).k) y1 y2 y3 y4), .int .i64 ((D.Kernel.mapO k o).err)]) ∧ (D.memF y1 (((D.Kernel.mapO k o).k).mem.f)).P w no ∧ (D.tlbF y2 (((D.Kernel.mapO k o).k).hart.tlb.sets)).P w no ∧ (D.spsF y3 (((D.Kernel.mapO k o).k).spaces)).P w no ∧ (D.fnsF y4 (((D.Kernel.mapO k o).k).fences)).P w no) := by
 refine SX.enterN (args := [(D.Kernel.enc k s1 s2 s3 s4), (D.Op.enc o)]) (hno := hno) 20 Tryz.func75 rfl kr fun ac A H => ?_
 have H := H.known (D.memF s1 k.mem.f) hs1
 have H := H.known (D.tlbF s2 k.hart.tlb.sets) hs2
 have H := H.known (D.spsF s3 k.spaces) hs3
 have H := H.known (D.fnsF s4 k.fences) hs4
 refine XS (XR (Xb [0, 0, 0, 0] A H fun ac w A H => XD (XT (XS (XR (Xb [0, 0, 1, 0, 1, 0, 1, 0, 1] A H fun ac w A H => ?_))))))
 have A := A.re 14 (.int .i64 (o.level)) (.int .i64 (((o.level.toNat : Nat) : Int))) kr (by rw [Int.toNat_of_nonneg hw.1])
 refine Xb [0, 1] A H fun ac w A H => SX.call A H (Map_calls k o.id o.va o.pa o.level.toNat o.perm s1 s2 s3 s4 w H.nos_lt (H.fact' 3 (D.memF s1 k.mem.f) kr) (H.fact' 2 (D.tlbF s2 k.hart.tlb.sets) kr) (H.fact' 1 (D.spsF s3 k.spaces) kr) (H.fact' 0 (D.fnsF s4 k.fences) kr) (hL.below H.below) (by assumption) (by first | assumption | omega) (by first | assumption | omega) (by first | assumption | omega) (by first | assumption | omega) ko ko ko) kr kr ?_
 rintro _ ac w ⟨z5, z6, z7, z8, rfl, hz5, hz6, hz7, hz8⟩ A H
 have H := H.learn (D.memF z5 (((D.mapN k o.id o.va o.pa o.level.toNat o.perm).k).mem.f)) hz5
 have H := H.learn (D.tlbF z6 (((D.mapN k o.id o.va o.pa o.level.toNat o.perm).k).hart.tlb.sets)) hz6
 have H := H.learn (D.spsF z7 (((D.mapN k o.id o.va o.pa o.level.toNat o.perm).k).spaces)) hz7
 have H := H.learn (D.fnsF z8 (((D.mapN k o.id o.va o.pa o.level.toNat o.perm).k).fences)) hz8
 refine Xb [0, 0, 2, 0] A H fun ac w A H => XD (XT (XW (Xr [2, 0] ((.tuple #[(D.Kernel.enc ((D.mapN k o.id o.va o.pa o.level.toNat o.perm).k) z5 z6 z7 z8), .int .i64 ((D.mapN k o.id o.va o.pa o.level.toNat o.perm).err)])) A H ?_)))
 refine ⟨z5, z6, z7, z8, ?_, (H.out 3 (D.memF z5 (((D.Kernel.mapO k o).k).mem.f)) kr), (H.out 2 (D.tlbF z6 (((D.Kernel.mapO k o).k).hart.tlb.sets)) kr), (H.out 1 (D.spsF z7 (((D.Kernel.mapO k o).k).spaces)) kr), (H.out 0 (D.fnsF z8 (((D.Kernel.mapO k o).k).fences)) kr)⟩
 rfl
theorem plain73 (k : D.Kernel) (o : D.Op)  {no : List Nat} (s1 s2 s3 s4 : SX.Sl) (w0 : World) (hno : ∀ b ∈ no, b < w0.heap.size) (hs1 : (D.memF s1 k.mem.f).P w0 no) (hs2 : (D.tlbF s2 k.hart.tlb.sets).P w0 no) (hs3 : (D.spsF s3 k.spaces).P w0 no) (hs4 : (D.fnsF s4 k.fences).P w0 no) (hL : Ld w0) (bg : Nat) (Tg : TypeId) (fg : Nat × Nat) (hbg : w0.heap[bg]? = some (.cells #[.func (.func 73) #[] #[]] Tg fg)) (hp : k.pool.Ok) (ha : k.asids.Ok) (hms : k.mem.size ≤ 1099511627776) (hrt : ∀ s ∈ k.spaces, s.root < 4503599627370495 ∧ s.asid < 18446744073709551616) (hns : k.spaces.length ≤ 32) : SX.Rets Tryz.prog 123 #[(D.Kernel.enc k s1 s2 s3 s4), (D.Op.enc o), .pointer (some ⟨bg, 0, none⟩)] w0 (fun r_ w => ∃ y1 y2 y3 y4 : SX.Sl, r_ = (.tuple #[(D.Kernel.enc ((D.destroyN k o.id).k) y1 y2 y3 y4), (D.Answer.enc (D.Answer.of (D.destroyN k o.id).err 0))]) ∧ (D.memF y1 (((D.destroyN k o.id).k).mem.f)).P w no ∧ (D.tlbF y2 (((D.destroyN k o.id).k).hart.tlb.sets)).P w no ∧ (D.spsF y3 (((D.destroyN k o.id).k).spaces)).P w no ∧ (D.fnsF y4 (((D.destroyN k o.id).k).fences)).P w no) := by
 refine SX.enterN (args := [(D.Kernel.enc k s1 s2 s3 s4), (D.Op.enc o), .pointer (some ⟨bg, 0, none⟩)]) (hno := hno) 19 Tryz.func123 rfl kr fun ac A H => ?_
 have H := H.known (D.memF s1 k.mem.f) hs1
 have H := H.known (D.tlbF s2 k.hart.tlb.sets) hs2
 have H := H.known (D.spsF s3 k.spaces) hs3
 have H := H.known (D.fnsF s4 k.fences) hs4
 have H := H.fb_old hbg
 refine XS (XR (Xb [0, 0, 0, 0] A H fun ac w A H => XD (XT (XS (XR (Xb [1000, 0, 1] A H fun ac w A H => SX.call A H (deed1 k o s1 s2 s3 s4 w H.nos_lt (H.fact' 3 (D.memF s1 k.mem.f) kr) (H.fact' 2 (D.tlbF s2 k.hart.tlb.sets) kr) (H.fact' 1 (D.spsF s3 k.spaces) kr) (H.fact' 0 (D.fnsF s4 k.fences) kr) (hL.below H.below) (by assumption) (by assumption) (by first | assumption | omega) (by assumption) (by first | assumption | omega)) kr kr ?_))))))
 rintro _ ac w ⟨z5, z6, z7, z8, rfl, hz5, hz6, hz7, hz8⟩ A H
 have H := H.learn (D.memF z5 (((D.destroyN k o.id).k).mem.f)) hz5
 have H := H.learn (D.tlbF z6 (((D.destroyN k o.id).k).hart.tlb.sets)) hz6
 have H := H.learn (D.spsF z7 (((D.destroyN k o.id).k).spaces)) hz7
 have H := H.learn (D.fnsF z8 (((D.destroyN k o.id).k).fences)) hz8
 refine Xb [0, 0, 0, 0, 4, 0] A H fun ac w A H => XD (XT (XS (XR (Xb [4, 0, 0, 2, 3] A H fun ac w A H => XD (XT (XW (Xr [2, 3] ((.tuple #[(D.Kernel.enc ((D.destroyN k o.id).k) z5 z6 z7 z8), (D.Answer.enc (⟨(D.destroyN k o.id).err, 0, (⟨0, (⟨false, 0, 0⟩ : D.Fault)⟩ : D.Result)⟩ : D.Answer))])) A H ?_)))))))
 refine ⟨z5, z6, z7, z8, ?_, (H.out 3 (D.memF z5 (((D.destroyN k o.id).k).mem.f)) kr), (H.out 2 (D.tlbF z6 (((D.destroyN k o.id).k).hart.tlb.sets)) kr), (H.out 1 (D.spsF z7 (((D.destroyN k o.id).k).spaces)) kr), (H.out 0 (D.fnsF z8 (((D.destroyN k o.id).k).fences)) kr)⟩
 rfl
theorem plain74 (k : D.Kernel) (o : D.Op)  {no : List Nat} (s1 s2 s3 s4 : SX.Sl) (w0 : World) (hno : ∀ b ∈ no, b < w0.heap.size) (hs1 : (D.memF s1 k.mem.f).P w0 no) (hs2 : (D.tlbF s2 k.hart.tlb.sets).P w0 no) (hs3 : (D.spsF s3 k.spaces).P w0 no) (hs4 : (D.fnsF s4 k.fences).P w0 no) (bg : Nat) (Tg : TypeId) (fg : Nat × Nat) (hbg : w0.heap[bg]? = some (.cells #[.func (.func 74) #[] #[]] Tg fg)) : SX.Rets Tryz.prog 123 #[(D.Kernel.enc k s1 s2 s3 s4), (D.Op.enc o), .pointer (some ⟨bg, 0, none⟩)] w0 (fun r_ w => ∃ y1 y2 y3 y4 : SX.Sl, r_ = (.tuple #[(D.Kernel.enc ((D.switchN k o.id).k) y1 y2 y3 y4), (D.Answer.enc (D.Answer.of (D.switchN k o.id).err 0))]) ∧ (D.memF y1 (((D.switchN k o.id).k).mem.f)).P w no ∧ (D.tlbF y2 (((D.switchN k o.id).k).hart.tlb.sets)).P w no ∧ (D.spsF y3 (((D.switchN k o.id).k).spaces)).P w no ∧ (D.fnsF y4 (((D.switchN k o.id).k).fences)).P w no) := by
 refine SX.enterN (args := [(D.Kernel.enc k s1 s2 s3 s4), (D.Op.enc o), .pointer (some ⟨bg, 0, none⟩)]) (hno := hno) 19 Tryz.func123 rfl kr fun ac A H => ?_
 have H := H.known (D.memF s1 k.mem.f) hs1
 have H := H.known (D.tlbF s2 k.hart.tlb.sets) hs2
 have H := H.known (D.spsF s3 k.spaces) hs3
 have H := H.known (D.fnsF s4 k.fences) hs4
 have H := H.fb_old hbg
 refine XS (XR (Xb [0, 0, 0, 0] A H fun ac w A H => XD (XT (XS (XR (Xb [1000, 0, 1] A H fun ac w A H => SX.call A H (deed2 k o s1 s2 s3 s4 w H.nos_lt (H.fact' 3 (D.memF s1 k.mem.f) kr) (H.fact' 2 (D.tlbF s2 k.hart.tlb.sets) kr) (H.fact' 1 (D.spsF s3 k.spaces) kr) (H.fact' 0 (D.fnsF s4 k.fences) kr)) kr kr ?_))))))
 rintro _ ac w ⟨z5, z6, z7, z8, rfl, hz5, hz6, hz7, hz8⟩ A H
 have H := H.learn (D.memF z5 (((D.switchN k o.id).k).mem.f)) hz5
 have H := H.learn (D.tlbF z6 (((D.switchN k o.id).k).hart.tlb.sets)) hz6
 have H := H.learn (D.spsF z7 (((D.switchN k o.id).k).spaces)) hz7
 have H := H.learn (D.fnsF z8 (((D.switchN k o.id).k).fences)) hz8
 refine Xb [0, 0, 0, 0, 4, 0] A H fun ac w A H => XD (XT (XS (XR (Xb [4, 0, 0, 2, 3] A H fun ac w A H => XD (XT (XW (Xr [2, 3] ((.tuple #[(D.Kernel.enc ((D.switchN k o.id).k) z5 z6 z7 z8), (D.Answer.enc (⟨(D.switchN k o.id).err, 0, (⟨0, (⟨false, 0, 0⟩ : D.Fault)⟩ : D.Result)⟩ : D.Answer))])) A H ?_)))))))
 refine ⟨z5, z6, z7, z8, ?_, (H.out 3 (D.memF z5 (((D.switchN k o.id).k).mem.f)) kr), (H.out 2 (D.tlbF z6 (((D.switchN k o.id).k).hart.tlb.sets)) kr), (H.out 1 (D.spsF z7 (((D.switchN k o.id).k).spaces)) kr), (H.out 0 (D.fnsF z8 (((D.switchN k o.id).k).fences)) kr)⟩
 rfl
theorem plain75 (k : D.Kernel) (o : D.Op)  {no : List Nat} (s1 s2 s3 s4 : SX.Sl) (w0 : World) (hno : ∀ b ∈ no, b < w0.heap.size) (hs1 : (D.memF s1 k.mem.f).P w0 no) (hs2 : (D.tlbF s2 k.hart.tlb.sets).P w0 no) (hs3 : (D.spsF s3 k.spaces).P w0 no) (hs4 : (D.fnsF s4 k.fences).P w0 no) (hL : Ld w0) (bg : Nat) (Tg : TypeId) (fg : Nat × Nat) (hbg : w0.heap[bg]? = some (.cells #[.func (.func 75) #[] #[]] Tg fg)) (hp : k.pool.Ok) (hms : k.mem.size ≤ 1099511627776) (hd : 0 ≤ k.conf.data ∧ k.conf.data ≤ 524288) (hsh : k.shared < 4503599627370495) (hrt : (k.sp o.id).root < 4503599627370495) (hw : 0 ≤ o.level ∧ o.level ≤ 2) (haddr : o.va < 18446744073709551616) (hpa : o.pa < 18446744073709551616) : SX.Rets Tryz.prog 123 #[(D.Kernel.enc k s1 s2 s3 s4), (D.Op.enc o), .pointer (some ⟨bg, 0, none⟩)] w0 (fun r_ w => ∃ y1 y2 y3 y4 : SX.Sl, r_ = (.tuple #[(D.Kernel.enc ((D.Kernel.mapO k o).k) y1 y2 y3 y4), (D.Answer.enc (D.Answer.of (D.Kernel.mapO k o).err 0))]) ∧ (D.memF y1 (((D.Kernel.mapO k o).k).mem.f)).P w no ∧ (D.tlbF y2 (((D.Kernel.mapO k o).k).hart.tlb.sets)).P w no ∧ (D.spsF y3 (((D.Kernel.mapO k o).k).spaces)).P w no ∧ (D.fnsF y4 (((D.Kernel.mapO k o).k).fences)).P w no) := by
 refine SX.enterN (args := [(D.Kernel.enc k s1 s2 s3 s4), (D.Op.enc o), .pointer (some ⟨bg, 0, none⟩)]) (hno := hno) 19 Tryz.func123 rfl kr fun ac A H => ?_
 have H := H.known (D.memF s1 k.mem.f) hs1
 have H := H.known (D.tlbF s2 k.hart.tlb.sets) hs2
 have H := H.known (D.spsF s3 k.spaces) hs3
 have H := H.known (D.fnsF s4 k.fences) hs4
 have H := H.fb_old hbg
 refine XS (XR (Xb [0, 0, 0, 0] A H fun ac w A H => XD (XT (XS (XR (Xb [1000, 0, 1] A H fun ac w A H => SX.call A H (deed3 k o s1 s2 s3 s4 w H.nos_lt (H.fact' 3 (D.memF s1 k.mem.f) kr) (H.fact' 2 (D.tlbF s2 k.hart.tlb.sets) kr) (H.fact' 1 (D.spsF s3 k.spaces) kr) (H.fact' 0 (D.fnsF s4 k.fences) kr) (hL.below H.below) (by assumption) (by first | assumption | omega) (by first | assumption | omega) (by first | assumption | omega) (by first | assumption | omega) ko (by first | assumption | omega) (by first | assumption | omega)) kr kr ?_))))))
 rintro _ ac w ⟨z5, z6, z7, z8, rfl, hz5, hz6, hz7, hz8⟩ A H
 have H := H.learn (D.memF z5 (((D.Kernel.mapO k o).k).mem.f)) hz5
 have H := H.learn (D.tlbF z6 (((D.Kernel.mapO k o).k).hart.tlb.sets)) hz6
 have H := H.learn (D.spsF z7 (((D.Kernel.mapO k o).k).spaces)) hz7
 have H := H.learn (D.fnsF z8 (((D.Kernel.mapO k o).k).fences)) hz8
 refine Xb [0, 0, 0, 0, 4, 0] A H fun ac w A H => XD (XT (XS (XR (Xb [4, 0, 0, 2, 3] A H fun ac w A H => XD (XT (XW (Xr [2, 3] ((.tuple #[(D.Kernel.enc ((D.Kernel.mapO k o).k) z5 z6 z7 z8), (D.Answer.enc (⟨(D.Kernel.mapO k o).err, 0, (⟨0, (⟨false, 0, 0⟩ : D.Fault)⟩ : D.Result)⟩ : D.Answer))])) A H ?_)))))))
 refine ⟨z5, z6, z7, z8, ?_, (H.out 3 (D.memF z5 (((D.Kernel.mapO k o).k).mem.f)) kr), (H.out 2 (D.tlbF z6 (((D.Kernel.mapO k o).k).hart.tlb.sets)) kr), (H.out 1 (D.spsF z7 (((D.Kernel.mapO k o).k).spaces)) kr), (H.out 0 (D.fnsF z8 (((D.Kernel.mapO k o).k).fences)) kr)⟩
 rfl
theorem plain82 (k : D.Kernel) (o : D.Op)  {no : List Nat} (s1 s2 s3 s4 : SX.Sl) (w0 : World) (hno : ∀ b ∈ no, b < w0.heap.size) (hs1 : (D.memF s1 k.mem.f).P w0 no) (hs2 : (D.tlbF s2 k.hart.tlb.sets).P w0 no) (hs3 : (D.spsF s3 k.spaces).P w0 no) (hs4 : (D.fnsF s4 k.fences).P w0 no) (hL : Ld w0) (bg : Nat) (Tg : TypeId) (fg : Nat × Nat) (hbg : w0.heap[bg]? = some (.cells #[.func (.func 82) #[] #[]] Tg fg)) (hk : k.Ok) (hva : o.va < 18446744073709551616) : SX.Rets Tryz.prog 123 #[(D.Kernel.enc k s1 s2 s3 s4), (D.Op.enc o), .pointer (some ⟨bg, 0, none⟩)] w0 (fun r_ w => ∃ y1 y2 y3 y4 : SX.Sl, r_ = (.tuple #[(D.Kernel.enc (D.bringK k o) y1 y2 y3 y4), (D.Answer.enc (D.Answer.of 0 0))]) ∧ (D.memF y1 ((D.bringK k o).mem.f)).P w no ∧ (D.tlbF y2 ((D.bringK k o).hart.tlb.sets)).P w no ∧ (D.spsF y3 ((D.bringK k o).spaces)).P w no ∧ (D.fnsF y4 ((D.bringK k o).fences)).P w no) := by
 refine SX.enterN (args := [(D.Kernel.enc k s1 s2 s3 s4), (D.Op.enc o), .pointer (some ⟨bg, 0, none⟩)]) (hno := hno) 19 Tryz.func123 rfl kr fun ac A H => ?_
 have H := H.known (D.memF s1 k.mem.f) hs1
 have H := H.known (D.tlbF s2 k.hart.tlb.sets) hs2
 have H := H.known (D.spsF s3 k.spaces) hs3
 have H := H.known (D.fnsF s4 k.fences) hs4
 have H := H.fb_old hbg
 refine XS (XR (Xb [0, 0, 0, 0] A H fun ac w A H => XD (XT (XS (XR (Xb [1000, 0, 1] A H fun ac w A H => SX.call A H (bring_calls k o s1 s2 s3 s4 w H.nos_lt (H.fact' 3 (D.memF s1 k.mem.f) kr) (H.fact' 2 (D.tlbF s2 k.hart.tlb.sets) kr) (H.fact' 1 (D.spsF s3 k.spaces) kr) (H.fact' 0 (D.fnsF s4 k.fences) kr) (hL.below H.below) (by assumption) (by first | assumption | omega)) kr kr ?_))))))
 rintro _ ac w ⟨z5, z6, z7, z8, rfl, hz5, hz6, hz7, hz8⟩ A H
 have H := H.learn (D.memF z5 ((D.bringK k o).mem.f)) hz5
 have H := H.learn (D.tlbF z6 ((D.bringK k o).hart.tlb.sets)) hz6
 have H := H.learn (D.spsF z7 ((D.bringK k o).spaces)) hz7
 have H := H.learn (D.fnsF z8 ((D.bringK k o).fences)) hz8
 refine Xb [0, 0, 0, 0, 4, 0] A H fun ac w A H => XD (XT (XS (XR (Xb [4, 0, 0, 2, 3] A H fun ac w A H => XD (XT (XW (Xr [2, 3] ((.tuple #[(D.Kernel.enc (D.bringK k o) z5 z6 z7 z8), (D.Answer.enc (⟨0, 0, (⟨0, (⟨false, 0, 0⟩ : D.Fault)⟩ : D.Result)⟩ : D.Answer))])) A H ?_)))))))
 refine ⟨z5, z6, z7, z8, ?_, (H.out 3 (D.memF z5 ((D.bringK k o).mem.f)) kr), (H.out 2 (D.tlbF z6 ((D.bringK k o).hart.tlb.sets)) kr), (H.out 1 (D.spsF z7 ((D.bringK k o).spaces)) kr), (H.out 0 (D.fnsF z8 ((D.bringK k o).fences)) kr)⟩
 rfl
end Go.Proofs.YtfkmcdkncmapmaaGreatDoor
set_option linter.unusedVariables false
set_option linter.unusedSimpArgs false
set_option maxRecDepth 100000
namespace Go.Proofs.YtfkmcdkncmapmaaGreatDoor
open Go Go.RowKit
theorem D.bitB_tb {x : Nat} (hx : x < 18446744073709551616) (i : Nat) : D.bitB x i = x.testBit i := by
 have h : (Bits.getN x i 1).testBit 0 = x.testBit i := by rw [Bits.testBit_getN x i 1 0 hx]; simp
 have h1 : Bits.getN x i 1 < 2 := getN_lt2 x i 1 kc
 rw [← h]
 unfold D.bitB
 have : Bits.getN x i 1 = 0 ∨ Bits.getN x i 1 = 1 := by omega
 rcases this with h | h <;> rw [h] <;> decide
theorem row_lo (l0 l1 l2 l3 l4 l5 l6 l7 : Bool) : (rowN l0 l1 l2 l3 l4 l5 l6 l7).testBit 0 = l0 ∧ (rowN l0 l1 l2 l3 l4 l5 l6 l7).testBit 1 = l1 ∧ (rowN l0 l1 l2 l3 l4 l5 l6 l7).testBit 2 = l2 ∧ (rowN l0 l1 l2 l3 l4 l5 l6 l7).testBit 3 = l3 ∧ (rowN l0 l1 l2 l3 l4 l5 l6 l7).testBit 4 = l4 ∧ (rowN l0 l1 l2 l3 l4 l5 l6 l7).testBit 5 = l5 ∧ (rowN l0 l1 l2 l3 l4 l5 l6 l7).testBit 6 = l6 ∧ (rowN l0 l1 l2 l3 l4 l5 l6 l7).testBit 7 = l7 := by
 cases l0 <;> cases l1 <;> cases l2 <;> cases l3 <;> cases l4 <;> cases l5 <;> cases l6 <;> cases l7 <;> decide +kernel
namespace D
theorem put_lt (p : Pte) : p.put < 18446744073709551616 := Bits.setN_lt _ _ _ _
theorem put_lo (p : Pte) {i : Nat} (hi : i < 8) : p.put.testBit i = (Go.Proofs.YtfkmcdkncmapmaaGreatDoor.rowN p.v p.r p.w p.x p.u p.g p.a p.d).testBit i := by
 unfold Pte.put
 rw [Bits.testBit_setN _ _ _ _ _ (Bits.setN_lt _ _ _ _), if_neg ko, Bits.testBit_setN _ _ _ _ _ (Bits.setN_lt _ _ _ _), if_neg ko, Bits.testBit_setN _ _ _ _ _ (rowN_lt _ _ _ _ _ _ _ _), if_neg ko]
theorem put_ppn (p : Pte) {i : Nat} (h1 : 10 ≤ i) (h2 : i < 54) : p.put.testBit i = p.ppn.testBit (i - 10) := by
 unfold Pte.put
 rw [Bits.testBit_setN _ _ _ _ _ (Bits.setN_lt _ _ _ _), if_neg ko, Bits.testBit_setN _ _ _ _ _ (Bits.setN_lt _ _ _ _), if_pos ko]
theorem put_high (p : Pte) {i : Nat} (h1 : 54 ≤ i) (h2 : i < 64) : p.put.testBit i = p.high.testBit (i - 54) := by
 unfold Pte.put
 rw [Bits.testBit_setN _ _ _ _ _ (Bits.setN_lt _ _ _ _), if_pos ko]
/-- What matters of a word that has been put. -/
structure GotPut (p q : Pte) : Prop where
 v : q.v = p.v
 r : q.r = p.r
 w : q.w = p.w
 x : q.x = p.x
 u : q.u = p.u
 g : q.g = p.g
 a : q.a = p.a
 d : q.d = p.d
theorem got_put (p : Pte) : GotPut p (Pte.get p.put) := by
 have h := row_lo p.v p.r p.w p.x p.u p.g p.a p.d
 have e : ∀ i, i < 8 → bitB p.put i = (Go.Proofs.YtfkmcdkncmapmaaGreatDoor.rowN p.v p.r p.w p.x p.u p.g p.a p.d).testBit i := fun i hi => by rw [bitB_tb (put_lt p), put_lo p hi]
 exact ⟨(e 0 ko).trans h.1, (e 1 ko).trans h.2.1, (e 2 ko).trans h.2.2.1, (e 3 ko).trans h.2.2.2.1, (e 4 ko).trans h.2.2.2.2.1, (e 5 ko).trans h.2.2.2.2.2.1, (e 6 ko).trans h.2.2.2.2.2.2.1, (e 7 ko).trans h.2.2.2.2.2.2.2⟩
theorem got_ppn (p : Pte) (h : p.ppn < 17592186044416) : (Pte.get p.put).ppn = p.ppn := by
 show Bits.getN p.put 10 44 = p.ppn
 refine Bits.eq_of_bits fun i => ?_
 rw [Bits.testBit_getN _ _ _ _ (put_lt p)]
 by_cases hi : i < 44
 · rw [put_ppn p ko ko, show 10 + i - 10 = i by omega]; simp [hi]
 · have : p.ppn.testBit i = false := Nat.testBit_lt_two_pow (Nat.lt_of_lt_of_le (show p.ppn < 2 ^ 44 by omega) (Nat.pow_le_pow_right kc ko))
   rw [this]; simp [hi]
theorem got_high (p : Pte) (h : p.high = 0) : (Pte.get p.put).high = 0 := by
 show Bits.getN p.put 54 10 = 0
 refine Bits.eq_of_bits fun i => ?_
 rw [Bits.testBit_getN _ _ _ _ (put_lt p)]
 by_cases hi : i < 10
 · rw [put_high p ko ko, h]; simp
 · simp [hi]
theorem get_zero : Pte.get 0 = Pte.zero := rfl
/-! ### Words by frames -/
theorem place_div (t : Nat) {i : Nat} (hi : i < 512) : placeN t i / 8 = t * 512 + i := by unfold placeN; omega
theorem wrong8 (m : Mem) (t i : Nat) : wrongN m (placeN t i) 8 = if m.size ≤ placeN t i then 3 else 0 := by
 unfold wrongN
 rw [if_neg kc]
 have : even (placeN t i) (Int.toNat 8) = true := by
  show even (placeN t i) 8 = true
  unfold even placeN
  simp; omega
 rw [if_neg (by rw [this]; decide)]
theorem load8 {m : Mem} {t i : Nat} (hi : i < 512) (hin : placeN t i < m.size) (hw : m.f (t * 512 + i) < 18446744073709551616) : loadM m (placeN t i) 8 = m.f (t * 512 + i) := by
 have h0 : wrongN m (placeN t i) 8 = 0 := by rw [wrong8, if_neg ko]
 unfold loadM
 rw [if_pos h0, wordN, if_pos hin, place_div t hi]
 have e : placeN t i % 8 * 8 = 0 := by unfold placeN; omega
 rw [e]
 show Bits.getN _ 0 64 = _
 rw [Bits.getN_mod _ _ _ kc kc]
 simp
 omega
theorem set64 (w v : Nat) (hw : w < 18446744073709551616) (hv : v < 18446744073709551616) : Bits.setN w 0 64 v = v := by
 refine Bits.eq_of_bits fun i => ?_
 rw [Bits.testBit_setN _ _ _ _ _ hw]
 by_cases hi : i < 64
 · rw [if_pos ko, Nat.sub_zero]
 · rw [if_neg ko, Bits.bit_high w i hw ko, Bits.bit_high v i hv ko]
theorem store8 {m : Mem} {t i v : Nat} (hi : i < 512) (hw : m.f (t * 512 + i) < 18446744073709551616) (hv : v < 18446744073709551616) (j : Nat) : (storeM m (placeN t i) 8 v).f j = if placeN t i < m.size ∧ j = t * 512 + i then v else m.f j := by
 unfold storeM
 by_cases h : m.size ≤ placeN t i
 · have h0 : ¬ wrongN m (placeN t i) 8 = 0 := by rw [wrong8, if_pos h]; decide
   rw [if_neg h0, if_neg ko]
 · have h0 : wrongN m (placeN t i) 8 = 0 := by rw [wrong8, if_neg h]
   rw [if_pos h0, wordN, if_pos ko, place_div t hi]
   have e : placeN t i % 8 * 8 = 0 := by unfold placeN; omega
   rw [e]
   show putF m.f _ (Bits.setN _ 0 64 v) j = _
   rw [set64 _ _ hw hv]
   unfold putF
   by_cases hj : j = t * 512 + i
   · rw [if_pos hj, if_pos ⟨by omega, hj⟩]
   · rw [if_neg hj, if_neg (fun h => hj h.2)]
theorem clr_f (m : Mem) (fr j : Nat) : (clrM m fr).f j = if fr * 512 ≤ j ∧ j < fr * 512 + 512 then 0 else m.f j := by
 show clrF m.f (fr * 4096 / 8) ((fr * 4096 + 4096) / 8) j = _
 unfold clrF
 rw [show fr * 4096 / 8 = fr * 512 by omega, show (fr * 4096 + 4096) / 8 = fr * 512 + 512 by omega]
end D
end Go.Proofs.YtfkmcdkncmapmaaGreatDoor
set_option linter.unusedVariables false
set_option linter.unusedSimpArgs false
set_option maxRecDepth 100000
namespace Go.Proofs.YtfkmcdkncmapmaaGreatDoor
open Go Go.RowKit
namespace D
/-- A word that leads to none of two frames, and is of one space. -/
def Wd (d w : Nat) : Prop := (Pte.get w).g = false ∧ ((Pte.get w).link = true → (Pte.get w).ppn ≠ d ∧ (Pte.get w).ppn ≠ d + 1)
theorem wd_zero (d : Nat) : Wd d 0 := by
 rw [Wd, get_zero]
 exact ⟨rfl, fun h => by cases h⟩
theorem GotPut.link {p q : Pte} (h : GotPut p q) : q.link = p.link := by unfold Pte.link; rw [h.v, h.r, h.x]
theorem may_ppn {p : Pte} (h : p.may = true) : p.ppn < 17592186044416 := by
 simp only [Pte.may, Bool.and_eq_true] at h
 have h2 := h.1.2
 simp only [fits, decide_eq_true_eq] at h2
 rw [← h2]
 exact getN_lt2 _ 0 44 kc
theorem wd_put {d : Nat} {p : Pte} (hg : p.g = false) (hl : p.link = true → p.ppn ≠ d ∧ p.ppn ≠ d + 1) : Wd d (if p.may then p.put else 0) := by
 by_cases h : p.may = true
 · rw [if_pos h]
   have g := got_put p
   exact ⟨g.g.trans hg, fun h1 => by rw [got_ppn p (may_ppn h)]; exact hl (g.link ▸ h1)⟩
 · rw [if_neg h]; exact wd_zero d
theorem put0_lt (p : Pte) : (if p.may then p.put else 0) < 18446744073709551616 := by
 split
 · exact put_lt p
 · decide
def special (d : Nat) : Nat := (d + 1) * 512 + 511
structure MInv (d : Nat) (m : Mem) : Prop where
 lt : ∀ j, m.f j < 18446744073709551616
 w : ∀ j, j ≠ special d → Wd d (m.f j)
 z : ∀ i, i < 512 → m.f (d * 512 + i) = 0
theorem MInv.clr {d : Nat} {m : Mem} (h : MInv d m) (fr : Nat) : MInv d (clrM m fr) := by
 refine ⟨fun j => ?_, fun j hj => ?_, fun i hi => ?_⟩
 · rw [clr_f]; split
   · decide
   · exact h.lt j
 · rw [clr_f]; split
   · exact wd_zero d
   · exact h.w j hj
 · rw [clr_f]; split
   · rfl
   · exact h.z i hi
theorem MInv.store {d : Nat} {m : Mem} (h : MInv d m) {t i v : Nat} (hi : i < 512) (ht : t ≠ d) (hv : v < 18446744073709551616) (hw : t * 512 + i ≠ special d → Wd d v) : MInv d (storeM m (placeN t i) 8 v) := by
 have e := store8 (m := m) (t := t) (v := v) hi (h.lt _) hv
 refine ⟨fun j => ?_, fun j hj => ?_, fun k hk => ?_⟩
 · rw [e]; split
   · exact hv
   · exact h.lt j
 · rw [e]; split
   · rename_i hh; exact hw (hh.2 ▸ hj)
   · exact h.w j hj
 · rw [e, if_neg (by rintro ⟨_, hh⟩; omega)]; exact h.z k hk
/-- A place at which a walk may stand. -/
def At (d addr l t : Nat) : Prop := t ≠ d ∧ t * 512 + indexN addr (l : Int) ≠ special d
theorem atN_link {m : Mem} {d t i : Nat} (h : MInv d m) (hi : i < 512) (hs : t * 512 + i ≠ special d) (hl : (atN m t i).link = true) : (atN m t i).ppn ≠ d ∧ (atN m t i).ppn ≠ d + 1 := by
 unfold atN wordN at hl ⊢
 by_cases hin : placeN t i < m.size
 · rw [if_pos hin, place_div t hi] at hl ⊢
   exact (h.w _ hs).2 hl
 · rw [if_neg hin, get_zero] at hl; cases hl
theorem links_link {p : Pte} {l : Int} (h : p.links l = true) : p.link = true := by
 simp only [Pte.links, Bool.and_eq_true] at h; exact h.1
theorem at_next {d addr l t : Nat} (h1 : t ≠ d) (h2 : t ≠ d + 1) : At d addr l t := by
 have := indexN_lt addr (l : Int)
 exact ⟨h1, by unfold special; omega⟩
theorem reach_at {m : Mem} {d addr want : Nat} (h : MInv d m) : ∀ l t, At d addr l t → (reach m addr want l t).table ≠ d ∧ (reach m addr want l t).table * 512 + indexN addr (reach m addr want l t).level ≠ special d
 | 0, t, ha => ha
 | l + 1, t, ha => by
  unfold reach
  split
  · rename_i hh
    have := atN_link h (indexN_lt _ _) ha.2 (links_link hh.2)
    exact reach_at h l _ (at_next this.1 this.2)
  · exact ha
/-! ### The buffer -/
def Entry.Of1 (e : Entry) : Prop := e.valid = true → (e.level = 0 ∨ e.level = 1 ∨ e.level = 2) ∧ e.ppn < 17592186044416 ∧ e.asid = 1 ∧ e.global = false
structure Set.Of1 (s : Set) : Prop where
 l0 : s.w0.Of1
 l1 : s.w1.Of1
 l2 : s.w2.Of1
 l3 : s.w3.Of1
structure Tlb.Of1 (t : Tlb) : Prop where
 n : t.sets.length ≤ 16
 s : ∀ s ∈ t.sets, s.Of1
theorem Tlb.Of1.ok {t : Tlb} (h : t.Of1) : t.Ok := ⟨h.n, fun s hs => ⟨fun v => ((h.s s hs).l0 v).1, fun v => ((h.s s hs).l1 v).1, fun v => ((h.s s hs).l2 v).1, fun v => ((h.s s hs).l3 v).1⟩⟩
theorem Tlb.Of1.pp {t : Tlb} (h : t.Of1) : t.Pp := fun s hs => ⟨fun v => ((h.s s hs).l0 v).2.1, fun v => ((h.s s hs).l1 v).2.1, fun v => ((h.s s hs).l2 v).2.1, fun v => ((h.s s hs).l3 v).2.1⟩
theorem zero_of1 : Entry.zero.Of1 := fun h => by cases h
theorem Set.Of1.put {s : Set} (h : s.Of1) {e : Entry} (he : e.Of1) (y : Int) : (s.put y e).Of1 := by
 obtain ⟨h0, h1, h2, h3⟩ := h
 unfold Set.put
 split
 · exact ⟨he, h1, h2, h3⟩
 · split
   · exact ⟨h0, he, h2, h3⟩
   · split
     · exact ⟨h0, h1, he, h3⟩
     · exact ⟨h0, h1, h2, he⟩
theorem Set.Of1.dropO {o s : Set} (h : s.Of1) (e : Entry) (y : Int) : (Set.dropO o s e y).Of1 := by
 unfold Set.dropO; split
 · exact h.put zero_of1 y
 · exact h
theorem Set.Of1.ins {s : Set} (h : s.Of1) {e : Entry} (he : e.Of1) (v : Int) : (s.ins e v).Of1 := by
 have h2 : (s.clean e).Of1 := (((h.dropO e 0).dropO e 1).dropO e 2).dropO e 3
 have h3 := h2.put he ((s.clean e).goes v)
 exact ⟨h3.l0, h3.l1, h3.l2, h3.l3⟩
theorem zero_set1 : Set.zero.Of1 := ⟨zero_of1, zero_of1, zero_of1, zero_of1⟩
theorem Tlb.Of1.at_ {t : Tlb} (h : t.Of1) (i : Nat) : (t.at_ i).Of1 := by
 unfold Tlb.at_
 cases hx : t.sets[i]? with
 | none => exact zero_set1
 | some s => exact h.s s (List.mem_of_getElem? hx)
theorem Tlb.Of1.put {t : Tlb} (h : t.Of1) {e : Entry} (he : e.Of1) (v : Int) : (t.put e v).Of1 := by
 unfold Tlb.put; split
 · exact h
 · refine ⟨by show (t.sets.set _ _).length ≤ 16; rw [List.length_set]; exact h.n, fun s hs => ?_⟩
   rcases List.mem_or_eq_of_mem_set (show s ∈ t.sets.set _ _ from hs) with hs | rfl
   · exact h.s s hs
   · exact (h.at_ _).ins he v
end D
end Go.Proofs.YtfkmcdkncmapmaaGreatDoor
