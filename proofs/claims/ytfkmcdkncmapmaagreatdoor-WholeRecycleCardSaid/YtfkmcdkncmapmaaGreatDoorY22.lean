/- Walks of functions, written by the session's own program wip/sx/sxgen.py; Lean checks them. -/
import Derived.Test.YtfkmcdkncmapmaaGreatDoorY02
import Derived.Test.YtfkmcdkncmapmaaGreatDoorY21
import Derived.Test.YtfkmcdkncmapmaaGreatDoorProg
set_option linter.unusedVariables false
set_option linter.unusedSimpArgs false
set_option maxRecDepth 100000
set_option maxHeartbeats 2000000
namespace Go.Proofs.YtfkmcdkncmapmaaGreatDoor
open Go Go.RowKit
namespace D
def Acc.way (a : Acc) : Way := ⟨a.kind, a.hart.priv, a.hart.sum, a.hart.mxr⟩
def Acc.fits (a : Acc) (e : Entry) : Bool := e.perm.allows a.way && (decide (a.kind ≠ 2) || e.dirty)
structure Led where
 acc : Acc
 at_ : Nat
 fault : Fault
def Acc.hit (a : Acc) : Hit := a.hart.tlb.find a.hart.satp.asid a.addr
def Acc.walk (a : Acc) : Walked := walkN a.mem a.hart.satp.ppn a.addr a.way
def Hart.withT (h : Hart) (t : Tlb) (v : Int) : Hart := ⟨t, h.satp, h.priv, h.sum, h.mxr, v⟩
def Acc.leads (a : Acc) : Led :=
 if a.hart.satp.mode ≠ 8 then ⟨a, a.addr, Fault.zero⟩
 else if isN a.addr = false then ⟨a, 0, ⟨true, causeN 2 a.kind, a.addr⟩⟩
 else if a.hit.ok = true ∧ a.fits a.hit.e = true then ⟨⟨a.hart.withT (a.hart.tlb.use a.hit.i a.hit.y) a.hart.victim, a.mem, a.kind, a.addr⟩, a.hit.e.ppn * 4096 + offsetN a.addr a.hit.e.level, Fault.zero⟩
 else if a.walk.fault.is_ = true then ⟨a, 0, a.walk.fault⟩
 else ⟨⟨a.hart.withT (a.hart.tlb.put (Entry.of a.walk.leaf a.addr a.hart.satp.asid) a.hart.victim) (-1), a.walk.mem, a.kind, a.addr⟩, a.walk.leaf.pte.ppn * 4096 + offsetN a.addr a.walk.leaf.level, Fault.zero⟩
theorem walkN_lv (m : Mem) (root addr : Nat) (y : Way) : (walkN m root addr y).leaf.level = 0 ∨ (walkN m root addr y).leaf.level = 1 ∨ (walkN m root addr y).leaf.level = 2 := by
 unfold walkN; split
 · exact .inl rfl
 · split
   · exact lookN_lv _ _ _ _
   · exact .inl rfl
theorem walkN_ppn (m : Mem) (root addr : Nat) (y : Way) : (walkN m root addr y).leaf.pte.ppn < 17592186044416 := by
 unfold walkN; split
 · exact Nat.pos_of_ne_zero kc
 · split
   · exact lookN_ppn _ _ _ _
   · exact Nat.pos_of_ne_zero kc
theorem Set.first_lt {s : Set} {q : Entry → Bool} (h : 0 ≤ s.first q) : s.first q = 0 ∨ s.first q = 1 ∨ s.first q = 2 ∨ s.first q = 3 := by have := s.first_bd q; omega
/-- What is found is there. -/
theorem Tlb.find_ok {t : Tlb} {asid x : Nat} (h : (t.find asid x).ok = true) : (t.find asid x).i < t.sets.length ∧ ((t.find asid x).y = 0 ∨ (t.find asid x).y = 1 ∨ (t.find asid x).y = 2 ∨ (t.find asid x).y = 3) := by
 unfold Tlb.find at h ⊢
 split at h
 · cases h
 · rename_i hn
   rw [if_neg hn]
   have hl : ∀ l, t.idx x l < t.sets.length := fun l => indexT_lt ko
   split at h
   · rename_i h0; rw [if_pos h0]; exact ⟨hl _, Set.first_lt (s := t.at_ (t.idx x 0)) (q := fun e => decide (e.level = 0) && e.hits asid x) h0⟩
   · rename_i h0; rw [if_neg h0]
     split at h
     · rename_i h1; rw [if_pos h1]; exact ⟨hl _, Set.first_lt (s := t.at_ (t.idx x 1)) (q := fun e => decide (e.level = 1) && e.hits asid x) h1⟩
     · rename_i h1; rw [if_neg h1]
       split at h
       · rename_i h2; rw [if_pos h2]; exact ⟨hl _, Set.first_lt (s := t.at_ (t.idx x 2)) (q := fun e => decide (e.level = 2) && e.hits asid x) h2⟩
       · cases h
end D
theorem fits_calls {w0 w : World} {sl : List SX.Fact} {fb : SX.Boxes} {no : List Nat} (BA : Nat) (a : D.Acc) (e : D.Entry) (s1 s2 : SX.Sl) (hL : Ld w0) (hk : a.kind = 0 ∨ a.kind = 1 ∨ a.kind = 2) (H : SX.Own w0 w [(BA, .cells (D.Acc.cs a s1 s2) 257 (0, 0))] ⟨D.tlbF s1 a.hart.tlb.sets :: D.memF s2 a.mem.f :: sl, fb, no⟩) : Calls Tryz.prog 209 #[.pointer (some ⟨BA, 0, none⟩), (D.Entry.enc e)] w (fun e_ w' => ∃ v_, e_ = .returned v_ ∧ ∃ y1 y2 : SX.Sl, v_ = .bool (a.fits e) ∧ SX.Own w0 w' [(BA, .cells (D.Acc.cs a y1 y2) 257 (0, 0))] ⟨D.tlbF y1 a.hart.tlb.sets :: D.memF y2 a.mem.f :: sl, fb, no⟩) := by
 refine SX.enterA (args := [.pointer (some ⟨BA, 0, none⟩), (D.Entry.enc e)]) 28 Tryz.func209 rfl kr fun ac A => XS (XR (Xb [0, 0] A H fun ac w A H => XD (XT (XS (SX.drawn 24 [0, 1] kr A H fun w H => SX.takes [0, 1] [(0, none), (1, some 1), (2, none), (3, none), (4, none), (5, some 0), (6, none), (7, none), (8, none), (9, some 0)] A H kr kd kr kr kr (Or.inl kr) fun ac A => SX.callGD 10 [0, 1] A H (Way_calls a.hart a.kind s1 w H.nos_lt (H.fact' 0 (D.tlbF s1 a.hart.tlb.sets) kr)) kr kr kr kr (Or.inl kr) fun ac w A H => SX.callGD 11 [0, 1] A H (Allows_calls e.perm (⟨a.kind, a.hart.priv, a.hart.sum, a.hart.mxr⟩ : D.Way) w (hL.below H.below) (hk)) kr kr kr kr (Or.inl kr) fun ac w A H => SX.takes [0, 1] [(12, none)] A H kr kd kr kr kr (Or.inl kr) fun ac A => ?_)))))
 refine Xs (e.perm.allows (⟨a.kind, a.hart.priv, a.hart.sum, a.hart.mxr⟩ : D.Way)) (fun h1 => ?_) fun h1 => ?_
 ·
  have A := A.rb 17 h1
  refine SX.takes [0, 1] [(13, none), (14, none), (15, none), (16, some 0), (17, none), (18, none)] A H kr kd kr kr kr (Or.inl kr) fun ac A => ?_
  refine Xs (a.kind != 2) (fun h2 => ?_) fun h2 => ?_
  ·
   have A := A.rb 23 h2
   have h2p : a.kind ≠ 2 := kp h2
   refine SX.takes [0, 1] [(19, none), (20, none), (21, none), (22, none), (23, none)] A H kr kd kr kr kr (Or.inl kr) fun ac A => ?_
   refine SX.doneD kr ?_ _
   refine XT (XW ?_)
   have hf0 := H.fact' 0 (D.tlbF s1 a.hart.tlb.sets) kr
   have hf1 := H.fact' 1 (D.memF s2 a.mem.f) kr
   have H2 := H.ro_top 2 sl kr
   have H2 := H2.learn (D.memF s2 a.mem.f) hf1
   have H2 := H2.learn (D.tlbF s1 a.hart.tlb.sets) hf0
   refine SX.retW [0] (.bool true) A H kr kr kr ⟨_, rfl, s1, s2, ?_, H2.pick [0] [(BA, .cells (D.Acc.cs a s1 s2) 257 (0, 0))] kc kr⟩
   refine congrArg Value.bool ?_
   show _ = (e.perm.allows (⟨a.kind, a.hart.priv, a.hart.sum, a.hart.mxr⟩ : D.Way) && (decide (a.kind ≠ 2) || e.dirty))
   first | (simp [h1, h2, h2p]; done) | (rw [Bool.eq_iff_iff]; simp [h1, h2, h2p]; done) | (simp_all; done)
  ·
   have A := A.rb 23 h2
   have h2p : ¬ (a.kind ≠ 2) := kp h2
   refine SX.takes [0, 1] [(19, none), (20, some 1), (21, none), (22, none), (23, none)] A H kr kd kr kr kr (Or.inl kr) fun ac A => ?_
   refine SX.doneD kr ?_ _
   refine XT (XW ?_)
   have hf0 := H.fact' 0 (D.tlbF s1 a.hart.tlb.sets) kr
   have hf1 := H.fact' 1 (D.memF s2 a.mem.f) kr
   have H2 := H.ro_top 2 sl kr
   have H2 := H2.learn (D.memF s2 a.mem.f) hf1
   have H2 := H2.learn (D.tlbF s1 a.hart.tlb.sets) hf0
   refine SX.retW [0] (.bool e.dirty) A H kr kr kr ⟨_, rfl, s1, s2, ?_, H2.pick [0] [(BA, .cells (D.Acc.cs a s1 s2) 257 (0, 0))] kc kr⟩
   refine congrArg Value.bool ?_
   show _ = (e.perm.allows (⟨a.kind, a.hart.priv, a.hart.sum, a.hart.mxr⟩ : D.Way) && (decide (a.kind ≠ 2) || e.dirty))
   first | (simp [h1, h2, h2p]; done) | (rw [Bool.eq_iff_iff]; simp [h1, h2, h2p]; done) | (simp_all; done)
 ·
  have A := A.rb 17 h1
  refine SX.takes [0, 1] [(13, none), (14, none), (15, none), (16, none), (17, none), (18, none), (19, none), (20, none), (21, none), (22, none), (23, none)] A H kr kd kr kr kr (Or.inl kr) fun ac A => ?_
  refine SX.doneD kr ?_ _
  refine XT (XW ?_)
  have hf0 := H.fact' 0 (D.tlbF s1 a.hart.tlb.sets) kr
  have hf1 := H.fact' 1 (D.memF s2 a.mem.f) kr
  have H2 := H.ro_top 2 sl kr
  have H2 := H2.learn (D.memF s2 a.mem.f) hf1
  have H2 := H2.learn (D.tlbF s1 a.hart.tlb.sets) hf0
  refine SX.retW [0] (.bool false) A H kr kr kr ⟨_, rfl, s1, s2, ?_, H2.pick [0] [(BA, .cells (D.Acc.cs a s1 s2) 257 (0, 0))] kc kr⟩
  refine congrArg Value.bool ?_
  show _ = (e.perm.allows (⟨a.kind, a.hart.priv, a.hart.sum, a.hart.mxr⟩ : D.Way) && (decide (a.kind ≠ 2) || e.dirty))
  first | (simp [h1]; done) | (rw [Bool.eq_iff_iff]; simp [h1]; done) | (simp_all; done)
end Go.Proofs.YtfkmcdkncmapmaaGreatDoor
