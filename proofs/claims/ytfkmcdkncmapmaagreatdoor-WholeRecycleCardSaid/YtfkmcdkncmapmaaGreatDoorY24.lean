/- Walks of functions, written by the session's own program wip/sx/sxgen.py; Lean checks them. -/
import Derived.Test.YtfkmcdkncmapmaaGreatDoorY02
import Derived.Test.YtfkmcdkncmapmaaGreatDoorY22
import Derived.Test.YtfkmcdkncmapmaaGreatDoorProg
import Derived.Test.YtfkmcdkncmapmaaGreatDoorY23
set_option linter.unusedVariables false
set_option linter.unusedSimpArgs false
set_option maxRecDepth 100000
set_option maxHeartbeats 2000000
namespace Go.Proofs.YtfkmcdkncmapmaaGreatDoor
open Go Go.RowKit
namespace D
structure Touched where
 mem : Mem
 result : Result
def Acc.touch (a : Acc) (x : Nat) (size : Int) (val : Nat) : Touched :=
 if a.kind = 2 then (if wrongN a.mem x size = 0 then ⟨storeM a.mem x size val, ⟨0, Fault.zero⟩⟩ else ⟨a.mem, ⟨0, ⟨true, causeN 1 a.kind, a.addr⟩⟩⟩)
 else if wrongN a.mem x size = 0 then ⟨a.mem, ⟨loadM a.mem x size, Fault.zero⟩⟩ else ⟨a.mem, ⟨0, ⟨true, causeN 1 a.kind, a.addr⟩⟩⟩
end D
theorem touch_calls {w0 w : World} {sl : List SX.Fact} {fb : SX.Boxes} {no : List Nat} (BA : Nat) (a : D.Acc) (x : Nat) (size : Int) (val : Nat) (s1 s2 : SX.Sl) (hL : Ld w0) (hk : a.kind = 0 ∨ a.kind = 1 ∨ a.kind = 2) (hx : x < 18446744073709551616) (hms : a.mem.size ≤ 1099511627776) (H : SX.Own w0 w [(BA, .cells (D.Acc.cs a s1 s2) 257 (0, 0))] ⟨D.tlbF s1 a.hart.tlb.sets :: D.memF s2 a.mem.f :: sl, fb, no⟩) : Calls Tryz.prog 181 #[.pointer (some ⟨BA, 0, none⟩), .int .u64 (((x : Nat) : Int)), .int .i64 size, .int .u64 (((val : Nat) : Int))] w (fun e_ w' => ∃ v_, e_ = .returned v_ ∧ ∃ y1 y2 : SX.Sl, v_ = (D.Result.enc ((a.touch x size val).result)) ∧ SX.Own w0 w' [(BA, .cells (D.Acc.cs (⟨a.hart, (a.touch x size val).mem, a.kind, a.addr⟩ : D.Acc) y1 y2) 257 (0, 0))] ⟨D.tlbF y1 ((⟨a.hart, (a.touch x size val).mem, a.kind, a.addr⟩ : D.Acc).hart.tlb.sets) :: D.memF y2 ((⟨a.hart, (a.touch x size val).mem, a.kind, a.addr⟩ : D.Acc).mem.f) :: sl, fb, no⟩) := by
 refine SX.enterA (args := [.pointer (some ⟨BA, 0, none⟩), .int .u64 (((x : Nat) : Int)), .int .i64 size, .int .u64 (((val : Nat) : Int))]) 70 Tryz.func181 rfl kr fun ac A => XS (XR (Xb [0] A H fun ac w A H => XD (XT (XS (XS (XR (Xb [0, 0, 0, 0, 0] A H fun ac w A H => XD (XT ?_))))))))
 refine Xs (a.kind == 2) (fun h1 => ?_) fun h1 => ?_
 ·
  have A := A.rb 17 h1
  have h1p : a.kind = 2 := kp h1
  refine Xt A (XS (XR (Xb [0, 0, 0, 0, 0, 0, 0] A H fun ac w A H => SX.call A H (Store_calls a.mem x size val s2 w H.nos_lt (H.fact' 1 (D.memF s2 a.mem.f) kr) ko (by first | assumption | omega)) kr kr ?_)))
  rintro _ ac w ⟨z3, rfl, hz3⟩ A H
  have H := H.learn (D.memF z3 ((D.storeM a.mem x size val).f)) hz3
  refine Xb [0, 0, 0, 0, 2, 0] A H fun ac w A H => XD (XT (XS (XS (XR (Xb [0, 0] A H fun ac w A H => XD (XT ?_))))))
  refine Xs ((D.wrongN a.mem x size) != 0) (fun h2 => ?_) fun h2 => ?_
  ·
   have A := A.rb 30 h2
   have h2p : D.wrongN a.mem x size ≠ 0 := kp h2
   refine Xt A (XS (SX.drawn 11 [0] kr A H fun w H => SX.takes [0] [(0, none), (1, none), (2, none), (3, some 0), (4, none), (5, none), (6, none), (7, some 0)] A H kr kd kr kr kr (Or.inl kr) fun ac A => SX.callGD 8 [0] A H (Access_calls a.kind a.addr w (hL.below H.below) (hk)) kr kr kr kr (Or.inl kr) fun ac w A H => SX.takes [0] [(9, none)] A H kr kd kr kr kr (Or.inl kr) fun ac A => SX.act 10 1 [0] A H kr kr kr (Or.inl kr) fun ac w A H => ?_))
   refine SX.doneD kr ?_ _
   refine XT (XW (XU (XU ?_)))
   have hf : D.Acc.touch a x size val = ⟨a.mem, ⟨0, ⟨true, causeN 1 a.kind, a.addr⟩⟩⟩ := by rw [D.Acc.touch, if_pos (by simpa using h1), if_neg ko]
   rw [hf]
   have hf0 := H.fact' 1 (D.tlbF s1 a.hart.tlb.sets) kr
   have hf1 := H.fact' 2 (D.memF s2 a.mem.f) kr
   have H2 := H.ro_top 3 sl kr
   have H2 := H2.learn (D.memF s2 a.mem.f) hf1
   have H2 := H2.learn (D.tlbF s1 a.hart.tlb.sets) hf0
   refine SX.retW [1] ((D.Result.enc (⟨0, (⟨true, causeN 1 a.kind, a.addr⟩ : D.Fault)⟩ : D.Result))) A H kr kr kr ⟨_, rfl, s1, s2, ?_, H2.pick [0] [(BA, .cells (D.Acc.cs a s1 s2) 257 (0, 0))] kc kr⟩
   rfl
  ·
   have A := A.rb 30 h2
   have h2p : ¬ (D.wrongN a.mem x size ≠ 0) := kp h2
   refine Xf A (XK (XT (XS (XR (Xb [0, 2, 0, 0, 0] A H fun ac w A H => XD (XT (XS (XR (Xb [0, 1] A H fun ac w A H => XD (XT (XW (XU ?_))))))))))))
   have hf : D.Acc.touch a x size val = ⟨D.storeM a.mem x size val, ⟨0, D.Fault.zero⟩⟩ := by rw [D.Acc.touch, if_pos (by simpa using h1), if_pos ko]
   rw [hf]
   have hf0 := H.fact' 1 (D.tlbF s1 a.hart.tlb.sets) kr
   have hf1 := H.fact' 0 (D.memF z3 ((D.storeM a.mem x size val).f)) kr
   have H2 := H.ro_top 3 sl kr
   have H2 := H2.learn (D.memF z3 ((D.storeM a.mem x size val).f)) hf1
   have H2 := H2.learn (D.tlbF s1 a.hart.tlb.sets) hf0
   refine SX.retW [1] ((D.Result.enc (⟨0, (⟨false, 0, 0⟩ : D.Fault)⟩ : D.Result))) A H kr kr kr ⟨_, rfl, s1, z3, ?_, H2.pick [0] [(BA, .cells (D.Acc.cs (⟨a.hart, (D.storeM a.mem x size val), a.kind, a.addr⟩ : D.Acc) s1 z3) 257 (0, 0))] kc kr⟩
   rfl
 ·
  have A := A.rb 17 h1
  have h1p : ¬ (a.kind = 2) := kp h1
  refine Xf A (XK (XT (XS (XR (Xb [0, 0, 0, 0, 0, 0] A H fun ac w A H => Xc A H (Load_calls a.mem x size s2 w H.nos_lt (H.fact' 1 (D.memF s2 a.mem.f) kr) ko) fun ac w A H => Xb [0, 0, 0, 0, 0] A H fun ac w A H => XD (XT (XS (XS (XR (Xb [0, 0] A H fun ac w A H => XD (XT ?_)))))))))))
  refine Xs ((D.wrongN a.mem x size) != 0) (fun h3 => ?_) fun h3 => ?_
  ·
   have A := A.rb 57 h3
   have h3p : D.wrongN a.mem x size ≠ 0 := kp h3
   refine Xt A (XS (SX.drawn 11 [0] kr A H fun w H => SX.takes [0] [(0, none), (1, none), (2, none), (3, some 0), (4, none), (5, none), (6, none), (7, some 0)] A H kr kd kr kr kr (Or.inl kr) fun ac A => SX.callGD 8 [0] A H (Access_calls a.kind a.addr w (hL.below H.below) (hk)) kr kr kr kr (Or.inl kr) fun ac w A H => SX.takes [0] [(9, none)] A H kr kd kr kr kr (Or.inl kr) fun ac A => SX.act 10 1 [0] A H kr kr kr (Or.inl kr) fun ac w A H => ?_))
   refine SX.doneD kr ?_ _
   refine XT (XW (XU ?_))
   have hf : D.Acc.touch a x size val = ⟨a.mem, ⟨0, ⟨true, causeN 1 a.kind, a.addr⟩⟩⟩ := by rw [D.Acc.touch, if_neg (by simpa using h1), if_neg ko]
   rw [hf]
   have hf0 := H.fact' 0 (D.tlbF s1 a.hart.tlb.sets) kr
   have hf1 := H.fact' 1 (D.memF s2 a.mem.f) kr
   have H2 := H.ro_top 2 sl kr
   have H2 := H2.learn (D.memF s2 a.mem.f) hf1
   have H2 := H2.learn (D.tlbF s1 a.hart.tlb.sets) hf0
   refine SX.retW [1] ((D.Result.enc (⟨0, (⟨true, causeN 1 a.kind, a.addr⟩ : D.Fault)⟩ : D.Result))) A H kr kr kr ⟨_, rfl, s1, s2, ?_, H2.pick [0] [(BA, .cells (D.Acc.cs a s1 s2) 257 (0, 0))] kc kr⟩
   rfl
  ·
   have A := A.rb 57 h3
   have h3p : ¬ (D.wrongN a.mem x size ≠ 0) := kp h3
   refine Xf A (XK (XT (XS (XR (Xb [0, 0, 1] A H fun ac w A H => XD (XT (XW ?_)))))))
   have hf : D.Acc.touch a x size val = ⟨a.mem, ⟨D.loadM a.mem x size, D.Fault.zero⟩⟩ := by rw [D.Acc.touch, if_neg (by simpa using h1), if_pos ko]
   rw [hf]
   have hf0 := H.fact' 0 (D.tlbF s1 a.hart.tlb.sets) kr
   have hf1 := H.fact' 1 (D.memF s2 a.mem.f) kr
   have H2 := H.ro_top 2 sl kr
   have H2 := H2.learn (D.memF s2 a.mem.f) hf1
   have H2 := H2.learn (D.tlbF s1 a.hart.tlb.sets) hf0
   refine SX.retW [1] ((D.Result.enc (⟨D.loadM a.mem x size, (⟨false, 0, 0⟩ : D.Fault)⟩ : D.Result))) A H kr kr kr ⟨_, rfl, s1, s2, ?_, H2.pick [0] [(BA, .cells (D.Acc.cs a s1 s2) 257 (0, 0))] kc kr⟩
   rfl
end Go.Proofs.YtfkmcdkncmapmaaGreatDoor
set_option linter.unusedVariables false
set_option linter.unusedSimpArgs false
set_option maxRecDepth 100000
set_option maxHeartbeats 2000000
namespace Go.Proofs.YtfkmcdkncmapmaaGreatDoor
open Go Go.RowKit
namespace D
theorem storeM_size (m : Mem) (k : Nat) (size : Int) (v : Nat) : (storeM m k size v).size = m.size := by unfold storeM; split <;> rfl
theorem markM_size (m : Mem) (l : Leaf) (d : Bool) : (markM m l d).size = m.size := storeM_size _ _ _ _
theorem walkN_size (m : Mem) (root addr : Nat) (y : Way) : (walkN m root addr y).mem.size = m.size := by
 unfold walkN; split
 · rfl
 · split
   · exact markM_size _ _ _
   · rfl
theorem leads_kind (a : Acc) : a.leads.acc.kind = a.kind ∧ a.leads.acc.addr = a.addr ∧ a.leads.acc.mem.size = a.mem.size := by
 unfold Acc.leads; split
 · exact ⟨rfl, rfl, rfl⟩
 · split
   · exact ⟨rfl, rfl, rfl⟩
   · split
     · exact ⟨rfl, rfl, rfl⟩
     · split
       · exact ⟨rfl, rfl, rfl⟩
       · exact ⟨rfl, rfl, walkN_size _ _ _ _⟩
theorem leads_at {a : Acc} (hx : a.addr < 18446744073709551616) (he : a.hit.ok = true → a.hit.e.ppn < 17592186044416) : a.leads.at_ < 18446744073709551616 := by
 have ho1 := offsetN_lt a.addr a.hit.e.level
 have ho2 := sizeN_le a.hit.e.level
 have ho3 := offsetN_lt a.addr a.walk.leaf.level
 have ho4 := sizeN_le a.walk.leaf.level
 have hp : a.walk.leaf.pte.ppn < 17592186044416 := walkN_ppn _ _ _ _
 unfold Acc.leads; split
 · exact hx
 · split
   · exact Nat.pos_of_ne_zero kc
   · split
     · rename_i hh; have := he hh.1; show a.hit.e.ppn * 4096 + _ < _; omega
     · split
       · exact Nat.pos_of_ne_zero kc
       · show a.walk.leaf.pte.ppn * 4096 + _ < _; omega
structure Acced where
 hart : Hart
 mem : Mem
 result : Result
def accN (h : Hart) (m : Mem) (kind : Int) (addr : Nat) (size : Int) (val : Nat) : Acced :=
 if even addr size.toNat = false then ⟨h, m, ⟨0, ⟨true, causeN 0 kind, addr⟩⟩⟩
 else if (Acc.leads ⟨h, m, kind, addr⟩).fault.is_ = true then ⟨h, m, ⟨0, (Acc.leads ⟨h, m, kind, addr⟩).fault⟩⟩
 else ⟨(Acc.leads ⟨h, m, kind, addr⟩).acc.hart, ((Acc.leads ⟨h, m, kind, addr⟩).acc.touch (Acc.leads ⟨h, m, kind, addr⟩).at_ size val).mem, ((Acc.leads ⟨h, m, kind, addr⟩).acc.touch (Acc.leads ⟨h, m, kind, addr⟩).at_ size val).result⟩
def Entry.Pp (e : Entry) : Prop := e.valid = true → e.ppn < 17592186044416
structure Set.Pp (s : Set) : Prop where
 l0 : s.w0.Pp
 l1 : s.w1.Pp
 l2 : s.w2.Pp
 l3 : s.w3.Pp
def Tlb.Pp (t : Tlb) : Prop := ∀ s ∈ t.sets, s.Pp
theorem Set.way_pp {s : Set} (h : s.Pp) (y : Int) : (s.way y).Pp := by
 unfold Set.way
 split
 · exact h.l0
 · split
   · exact h.l1
   · split
     · exact h.l2
     · exact h.l3
theorem Set.first_is {s : Set} {q : Entry → Bool} (h : 0 ≤ s.first q) : q (s.way (s.first q)) = true := by
 unfold Set.first at h ⊢
 split
 · rename_i h0; exact h0
 · rename_i h0
   rw [if_neg h0] at h
   split
   · rename_i h1; exact h1
   · rename_i h1
     rw [if_neg h1] at h
     split
     · rename_i h2; exact h2
     · rename_i h2
       rw [if_neg h2] at h
       split
       · rename_i h3; exact h3
       · rename_i h3; rw [if_neg h3] at h; omega
theorem Set.find_is {s : Set} {asid x : Nat} {l : Int} (h : 0 ≤ s.find asid x l) : (s.way (s.find asid x l)).level = l ∧ (s.way (s.find asid x l)).valid = true ∧ (s.way (s.find asid x l)).hits asid x = true := by
 have := Set.first_is h
 simp only [Bool.and_eq_true, decide_eq_true_eq] at this
 refine ⟨this.1, ?_, this.2⟩
 have h2 := this.2
 unfold Entry.hits Entry.covers at h2
 simp only [Bool.and_eq_true] at h2
 exact h2.1.1
theorem Tlb.at_mem {t : Tlb} {i : Nat} (h : i < t.sets.length) : t.at_ i ∈ t.sets := by
 unfold Tlb.at_
 rw [List.getElem?_eq_getElem h]
 exact List.getElem_mem h
theorem Tlb.hit_is {t : Tlb} {asid x : Nat} {l : Int} (hn : t.sets.length ≠ 0) (hp : t.Pp) (h : 0 ≤ t.way asid x l) : (t.hit asid x l).e.ppn < 17592186044416 ∧ (t.hit asid x l).e.level = l := by
 obtain ⟨h1, h2, _⟩ := Set.find_is h
 exact ⟨Set.way_pp (hp _ (Tlb.at_mem (indexT_lt ko))) _ h2, h1⟩
theorem Tlb.find_pp {t : Tlb} {asid x : Nat} (hp : t.Pp) (h : (t.find asid x).ok = true) : (t.find asid x).e.ppn < 17592186044416 ∧ ((t.find asid x).e.level = 0 ∨ (t.find asid x).e.level = 1 ∨ (t.find asid x).e.level = 2) := by
 unfold Tlb.find at h ⊢
 split at h
 · cases h
 · rename_i hn
   rw [if_neg hn]
   split at h
   · rename_i h0; rw [if_pos h0]; have := Tlb.hit_is hn hp h0; exact ⟨this.1, .inl this.2⟩
   · rename_i h0; rw [if_neg h0]
     split at h
     · rename_i h1; rw [if_pos h1]; have := Tlb.hit_is hn hp h1; exact ⟨this.1, .inr (.inl this.2)⟩
     · rename_i h1; rw [if_neg h1]
       split at h
       · rename_i h2; rw [if_pos h2]; have := Tlb.hit_is hn hp h2; exact ⟨this.1, .inr (.inr this.2)⟩
       · cases h
structure Hart.Ok (h : Hart) : Prop where
 ppn : h.satp.ppn < 4503599627370495
 asid : h.satp.asid < 18446744073709551616
 tlb : h.tlb.Ok
 pp : h.tlb.Pp
end D
theorem hAccess_calls (h : D.Hart) (m : D.Mem) (kind : Int) (addr : Nat) (size : Int) (val : Nat)  {no : List Nat} (s1 s2 : SX.Sl) (w0 : World) (hno : ∀ b ∈ no, b < w0.heap.size) (hs1 : (D.tlbF s1 h.tlb.sets).P w0 no) (hs2 : (D.memF s2 m.f).P w0 no) (hL : Ld w0) (hk : kind = 0 ∨ kind = 1 ∨ kind = 2) (hz : size = 1 ∨ size = 2 ∨ size = 4 ∨ size = 8) (hh : h.Ok) (haddr : addr < 18446744073709551616) (hms : m.size ≤ 1099511627776) : SX.Rets Tryz.prog 134 #[(D.Hart.enc h s1), (D.Mem.enc m s2), .int .i64 kind, .int .u64 (((addr : Nat) : Int)), .int .i64 size, .int .u64 (((val : Nat) : Int))] w0 (fun r_ w => ∃ y1 y2 : SX.Sl, r_ = (.tuple #[(D.Hart.enc ((D.accN h m kind addr size val).hart) y1), (D.Mem.enc ((D.accN h m kind addr size val).mem) y2), (D.Result.enc ((D.accN h m kind addr size val).result))]) ∧ (D.tlbF y1 (((D.accN h m kind addr size val).hart).tlb.sets)).P w no ∧ (D.memF y2 (((D.accN h m kind addr size val).mem).f)).P w no) := by
 refine SX.enterN (args := [(D.Hart.enc h s1), (D.Mem.enc m s2), .int .i64 kind, .int .u64 (((addr : Nat) : Int)), .int .i64 size, .int .u64 (((val : Nat) : Int))]) (hno := hno) 61 Tryz.func134 rfl kr fun ac A H => ?_
 have H := H.known (D.tlbF s1 h.tlb.sets) hs1
 have H := H.known (D.memF s2 m.f) hs2
 have hlk := D.leads_kind ⟨h, m, kind, addr⟩
 have hla := D.leads_at (a := ⟨h, m, kind, addr⟩) haddr (fun hok => (D.Tlb.find_pp hh.pp hok).1)
 refine XS (XR (Xb [0, 0, 0, 0, 0] A H fun ac w A H => XD (XT (XS (XS (XR (Xb [0, 0, 0] A H fun ac w A H => ?_)))))))
 have A := A.re 21 (.int .u64 (IntKind.u64.wrap (size))) (.int .u64 ((((size).toNat : Nat) : Int))) kr (SX.u_toNat _ ko ko)
 refine Xc A H (Even_calls addr ((size).toNat) w) fun ac w A H => Xb [0] A H fun ac w A H => XD (XT ?_)
 refine Xs (even addr ((size).toNat)) (fun h1 => ?_) fun h1 => ?_
 ·
  have A := A.re 23 (.bool (!(even addr ((size).toNat)))) (.bool false) kr (by rw [h1]; rfl)
  refine Xf A (XK (XT (XS (XR (Xb [0, 1, 0, 0, 0, 0, 0] A H fun ac w A H => XD (XT (XS (XR (Xb [0] A H fun ac w A H => ?_)))))))))
  have hm0 := H.fact' 1 (D.tlbF s1 h.tlb.sets) kr
  have hm1 := H.fact' 0 (D.memF s2 m.f) kr
  have H := H.learn (D.memF s2 m.f) hm1
  have H := H.learn (D.tlbF s1 h.tlb.sets) hm0
  have HL := H.lend 5 (p := (SX.bb H 5, .cells (D.Acc.cs (⟨h, m, kind, addr⟩ : D.Acc) s1 s2) 257 (0, 0))) kr
  refine SX.callW A (leads_calls (SX.bb H 5) (⟨h, m, kind, addr⟩ : D.Acc)  s1 s2 hL (hk) (hh.ppn) (hh.asid) (hh.tlb) (haddr) (hms) (fun hok => D.Tlb.find_pp hh.pp hok) HL) kr kr ?_
  rintro _ ac w ⟨z3, z4, rfl, H2⟩ A
  have H := H.back 5 (o := .cells (D.Acc.cs (⟨h, m, kind, addr⟩ : D.Acc) s1 s2) 257 (0, 0)) kr H2
  have H := H.pick [1, 2, 3, 4, 5, 0] [(SX.bb H 1, .cells (D.Hart.cs h s1) 37 (0, 0)), (SX.bb H 2, .cells (D.Mem.cs m s2) 30 (0, 0)), (SX.bb H 3, .cells (D.Hart.cs (⟨(⟨[]⟩ : D.Tlb), (⟨0, 0, 0⟩ : D.Satp), 0, false, false, 0⟩ : D.Hart) SX.Sl.nil) 37 (0, 0)), (SX.bb H 4, .cells #[.int .u64 0, (.slice none 0 0)] 30 (0, 0)), (SX.bb H 5, .cells #[.int .u64 0, .bool false, .int .i64 0, .int .u64 0] 60 (0, 0)), (SX.bb H 0, .cells (D.Acc.cs (((⟨h, m, kind, addr⟩ : D.Acc).leads).acc) z3 z4) 257 (0, 0))] kc kr
  refine Xb [0, 0, 0, 0, 0, 6] A H fun ac w A H => XD (XT (XS (XS (XR (Xb [0, 6] A H fun ac w A H => XD (XT ?_))))))
  refine Xs ((((⟨h, m, kind, addr⟩ : D.Acc).leads).fault).is_) (fun h2 => ?_) fun h2 => ?_
  ·
   have A := A.rb 42 h2
   refine Xt A (XS (SX.drawn 7 [0, 1, 6] kr A H fun w H => SX.takes [0, 1, 6] [(0, some 0), (1, some 1), (2, some 2), (3, none)] A H kr kd kr kr kr (Or.inl kr) fun ac A => SX.act 4 2 [0, 1, 6] A H kr kr kr (Or.inl kr) fun ac w A H => SX.act 5 3 [0, 1, 6] A H kr kr kr (Or.inl kr) fun ac w A H => SX.act 6 4 [0, 1, 6] A H kr kr kr (Or.inl kr) fun ac w A H => ?_))
   refine SX.doneD kr ?_ _
   refine XT (XW (XU (Xr [2, 3, 4] ((.tuple #[(D.Hart.enc h s1), (D.Mem.enc m s2), (D.Result.enc (⟨0, (((⟨h, m, kind, addr⟩ : D.Acc).leads).fault)⟩ : D.Result))])) A H ?_)))
   have hf : D.accN h m kind addr size val = ⟨h, m, ⟨0, (D.Acc.leads ⟨h, m, kind, addr⟩).fault⟩⟩ := by rw [D.accN, if_neg (by rw [h1]; decide), if_pos h2]
   refine ⟨s1, s2, ?_, (by rw [hf]; exact (H.out 3 (D.tlbF s1 h.tlb.sets) kr)), (by rw [hf]; exact (H.out 2 (D.memF s2 m.f) kr))⟩
   rw [hf] <;> rfl
  ·
   have A := A.rb 42 h2
   refine Xf A (XK (XT (XS (XR (Xb [0, 0, 0, 0] A H fun ac w A H => ?_)))))
   have hm0 := H.fact' 0 (D.tlbF z3 ((((⟨h, m, kind, addr⟩ : D.Acc).leads).acc).hart.tlb.sets)) kr
   have hm1 := H.fact' 1 (D.memF z4 ((((⟨h, m, kind, addr⟩ : D.Acc).leads).acc).mem.f)) kr
   have H := H.learn (D.memF z4 ((((⟨h, m, kind, addr⟩ : D.Acc).leads).acc).mem.f)) hm1
   have H := H.learn (D.tlbF z3 ((((⟨h, m, kind, addr⟩ : D.Acc).leads).acc).hart.tlb.sets)) hm0
   have HL := H.lend 5 (p := (SX.bb H 5, .cells (D.Acc.cs (((⟨h, m, kind, addr⟩ : D.Acc).leads).acc) z3 z4) 257 (0, 0))) kr
   refine SX.callW A (touch_calls (SX.bb H 5) (((⟨h, m, kind, addr⟩ : D.Acc).leads).acc) (((⟨h, m, kind, addr⟩ : D.Acc).leads).at_) size val z3 z4 hL (by rw [hlk.1]; exact hk) (hla) (by rw [hlk.2.2]; exact hms) HL) kr kr ?_
   rintro _ ac w ⟨z5, z6, rfl, H2⟩ A
   have H := H.back 5 (o := .cells (D.Acc.cs (((⟨h, m, kind, addr⟩ : D.Acc).leads).acc) z3 z4) 257 (0, 0)) kr H2
   have H := H.pick [1, 2, 3, 4, 5, 0, 6] [(SX.bb H 1, .cells (D.Hart.cs h s1) 37 (0, 0)), (SX.bb H 2, .cells (D.Mem.cs m s2) 30 (0, 0)), (SX.bb H 3, .cells (D.Hart.cs (⟨(⟨[]⟩ : D.Tlb), (⟨0, 0, 0⟩ : D.Satp), 0, false, false, 0⟩ : D.Hart) SX.Sl.nil) 37 (0, 0)), (SX.bb H 4, .cells #[.int .u64 0, (.slice none 0 0)] 30 (0, 0)), (SX.bb H 5, .cells #[.int .u64 0, .bool false, .int .i64 0, .int .u64 0] 60 (0, 0)), (SX.bb H 0, .cells (D.Acc.cs (⟨(((⟨h, m, kind, addr⟩ : D.Acc).leads).acc).hart, ((((⟨h, m, kind, addr⟩ : D.Acc).leads).acc).touch (((⟨h, m, kind, addr⟩ : D.Acc).leads).at_) size val).mem, (((⟨h, m, kind, addr⟩ : D.Acc).leads).acc).kind, (((⟨h, m, kind, addr⟩ : D.Acc).leads).acc).addr⟩ : D.Acc) z5 z6) 257 (0, 0)), (SX.bb H 6, .cells (D.Fault.cs (((⟨h, m, kind, addr⟩ : D.Acc).leads).fault)) 58 (0, 0))] kc kr
   refine Xb [0, 7] A H fun ac w A H => XD (XT (XS (SX.drawn 12 [5, 7] kr A H fun w H => SX.takes [5, 7] [(0, none), (1, none), (2, none), (3, some 0), (4, none), (5, none), (6, none), (7, some 0), (8, some 1)] A H kr kd kr kr kr (Or.inl kr) fun ac A => SX.act 9 2 [5, 7] A H kr kr kr (Or.inl kr) fun ac w A H => SX.act 10 3 [5, 7] A H kr kr kr (Or.inl kr) fun ac w A H => SX.act 11 4 [5, 7] A H kr kr kr (Or.inl kr) fun ac w A H => ?_)))
   refine SX.doneD kr ?_ _
   refine XT (XW (Xr [2, 3, 4] ((.tuple #[(D.Hart.enc (⟨(((⟨h, m, kind, addr⟩ : D.Acc).leads).acc).hart, ((((⟨h, m, kind, addr⟩ : D.Acc).leads).acc).touch (((⟨h, m, kind, addr⟩ : D.Acc).leads).at_) size val).mem, (((⟨h, m, kind, addr⟩ : D.Acc).leads).acc).kind, (((⟨h, m, kind, addr⟩ : D.Acc).leads).acc).addr⟩ : D.Acc).hart z5), (D.Mem.enc (⟨(((⟨h, m, kind, addr⟩ : D.Acc).leads).acc).hart, ((((⟨h, m, kind, addr⟩ : D.Acc).leads).acc).touch (((⟨h, m, kind, addr⟩ : D.Acc).leads).at_) size val).mem, (((⟨h, m, kind, addr⟩ : D.Acc).leads).acc).kind, (((⟨h, m, kind, addr⟩ : D.Acc).leads).acc).addr⟩ : D.Acc).mem z6), (D.Result.enc (((((⟨h, m, kind, addr⟩ : D.Acc).leads).acc).touch (((⟨h, m, kind, addr⟩ : D.Acc).leads).at_) size val).result))])) A H ?_))
   have hf : D.accN h m kind addr size val = ⟨(D.Acc.leads ⟨h, m, kind, addr⟩).acc.hart, ((D.Acc.leads ⟨h, m, kind, addr⟩).acc.touch (D.Acc.leads ⟨h, m, kind, addr⟩).at_ size val).mem, ((D.Acc.leads ⟨h, m, kind, addr⟩).acc.touch (D.Acc.leads ⟨h, m, kind, addr⟩).at_ size val).result⟩ := by rw [D.accN, if_neg (by rw [h1]; decide), if_neg (fun hh => absurd (hh.symm.trans h2) kc)]
   refine ⟨z5, z6, ?_, (by rw [hf]; exact (H.out 0 (D.tlbF z5 ((⟨(((⟨h, m, kind, addr⟩ : D.Acc).leads).acc).hart, ((((⟨h, m, kind, addr⟩ : D.Acc).leads).acc).touch (((⟨h, m, kind, addr⟩ : D.Acc).leads).at_) size val).mem, (((⟨h, m, kind, addr⟩ : D.Acc).leads).acc).kind, (((⟨h, m, kind, addr⟩ : D.Acc).leads).acc).addr⟩ : D.Acc).hart.tlb.sets)) kr)), (by rw [hf]; exact (H.out 1 (D.memF z6 ((⟨(((⟨h, m, kind, addr⟩ : D.Acc).leads).acc).hart, ((((⟨h, m, kind, addr⟩ : D.Acc).leads).acc).touch (((⟨h, m, kind, addr⟩ : D.Acc).leads).at_) size val).mem, (((⟨h, m, kind, addr⟩ : D.Acc).leads).acc).kind, (((⟨h, m, kind, addr⟩ : D.Acc).leads).acc).addr⟩ : D.Acc).mem.f)) kr))⟩
   rw [hf] <;> rfl
 ·
  have A := A.re 23 (.bool (!(even addr ((size).toNat)))) (.bool true) kr (by rw [h1]; rfl)
  refine Xt A (XS (SX.drawn 9 [0, 1] kr A H fun w H => SX.takes [0, 1] [(0, some 0), (1, some 1), (2, none), (3, none)] A H kr kd kr kr kr (Or.inl kr) fun ac A => SX.callGD 4 [0, 1] A H (Odd_calls kind addr w (hL.below H.below) (hk)) kr kr kr kr (Or.inl kr) fun ac w A H => SX.takes [0, 1] [(5, none)] A H kr kd kr kr kr (Or.inl kr) fun ac A => SX.act 6 2 [0, 1] A H kr kr kr (Or.inl kr) fun ac w A H => SX.act 7 3 [0, 1] A H kr kr kr (Or.inl kr) fun ac w A H => SX.act 8 4 [0, 1] A H kr kr kr (Or.inl kr) fun ac w A H => ?_))
  refine SX.doneD kr ?_ _
  refine XT (XW (XU (Xr [2, 3, 4] ((.tuple #[(D.Hart.enc h s1), (D.Mem.enc m s2), (D.Result.enc (⟨0, (⟨true, causeN 0 kind, addr⟩ : D.Fault)⟩ : D.Result))])) A H ?_)))
  have hf : D.accN h m kind addr size val = ⟨h, m, ⟨0, ⟨true, causeN 0 kind, addr⟩⟩⟩ := by rw [D.accN, if_pos h1]
  refine ⟨s1, s2, ?_, (by rw [hf]; exact (H.out 1 (D.tlbF s1 h.tlb.sets) kr)), (by rw [hf]; exact (H.out 0 (D.memF s2 m.f) kr))⟩
  rw [hf] <;> rfl
end Go.Proofs.YtfkmcdkncmapmaaGreatDoor
