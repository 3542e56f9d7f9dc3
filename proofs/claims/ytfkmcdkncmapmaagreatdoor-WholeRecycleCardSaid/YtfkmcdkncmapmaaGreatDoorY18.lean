/- Walks of functions, written by the session's own program wip/sx/sxgen.py; Lean checks them. -/
import Derived.Test.YtfkmcdkncmapmaaGreatDoorY02
import Derived.Test.YtfkmcdkncmapmaaGreatDoorY17
import Derived.Test.YtfkmcdkncmapmaaGreatDoorProg
set_option linter.unusedVariables false
set_option linter.unusedSimpArgs false
set_option maxRecDepth 100000
set_option maxHeartbeats 1000000
namespace Go.Proofs.YtfkmcdkncmapmaaGreatDoor
open Go Go.RowKit
namespace D
def Set.zero : Set := ⟨Entry.zero, Entry.zero, Entry.zero, Entry.zero, 0⟩
def Tlb.at_ (t : Tlb) (i : Nat) : Set := (t.sets[i]?).getD Set.zero
def Tlb.use (t : Tlb) (i : Nat) (y : Int) : Tlb := t.with_ i ((t.at_ i).use y)
def Tlb.drop (t : Tlb) (i : Nat) (y : Int) : Tlb := t.with_ i ((t.at_ i).put y Entry.zero)
structure Tlb.Ok (t : Tlb) : Prop where
 n : t.sets.length ≤ 16
 lv : ∀ s ∈ t.sets, s.Lv
structure Hit where
 e : Entry
 i : Nat
 y : Int
 ok : Bool
def Hit.none : Hit := ⟨Entry.zero, 0, 0, false⟩
def Tlb.idx (t : Tlb) (x : Nat) (l : Int) : Nat := indexT t.sets.length (numberN x) l
def Tlb.way (t : Tlb) (asid x : Nat) (l : Int) : Int := (t.at_ (t.idx x l)).find asid x l
def Tlb.hit (t : Tlb) (asid x : Nat) (l : Int) : Hit := ⟨(t.at_ (t.idx x l)).way (t.way asid x l), t.idx x l, t.way asid x l, true⟩
def Tlb.find (t : Tlb) (asid x : Nat) : Hit :=
 if t.sets.length = 0 then Hit.none else if 0 ≤ t.way asid x 0 then t.hit asid x 0 else if 0 ≤ t.way asid x 1 then t.hit asid x 1 else if 0 ≤ t.way asid x 2 then t.hit asid x 2 else Hit.none
def Tlb.put (t : Tlb) (e : Entry) (v : Int) : Tlb := if t.sets.length = 0 ∨ e.may = false then t else t.with_ (indexT t.sets.length e.vpn e.level) ((t.at_ (indexT t.sets.length e.vpn e.level)).ins e v)
theorem indexT_lt {m v : Nat} {l : Int} (h : 0 < m) : indexT m v l < m := Nat.mod_lt _ h
end D
theorem tUse_calls (t : D.Tlb) (i : Nat) (y : Int)  {no : List Nat} (s1 : SX.Sl) (w0 : World) (hno : ∀ b ∈ no, b < w0.heap.size) (hs1 : (D.tlbF s1 t.sets).P w0 no) (hL : Ld w0) (hi : i < t.sets.length) (hn : t.sets.length ≤ 16) (hy : y = 0 ∨ y = 1 ∨ y = 2 ∨ y = 3) : SX.Rets Tryz.prog 210 #[(D.Tlb.enc t s1), .int .i64 (((i : Nat) : Int)), .int .i64 y] w0 (fun r_ w => ∃ y1 : SX.Sl, r_ = (D.Tlb.enc (t.use i y) y1) ∧ (D.tlbF y1 ((t.use i y).sets)).P w no) := by
 refine SX.enterN (args := [(D.Tlb.enc t s1), .int .i64 (((i : Nat) : Int)), .int .i64 y]) (hno := hno) 17 Tryz.func210 rfl kr fun ac A H => ?_
 have H := H.known (D.tlbF s1 t.sets) hs1
 refine XS (XR (Xb [0, 0] A H fun ac w A H => XD (XT (XS (SX.drawn 11 [0] kr A H fun w H => SX.takes [0] [(0, some 0), (1, none), (2, none), (3, some 0), (4, none)] A H kr kd kr kr kr (Or.inl kr) fun ac A => ?_)))))
 obtain ⟨e1, he1⟩ := SX.get_of_lt (l := t.sets) (i := i) (hi)
 refine SX.takeG 5 [0] A H kr kd (fun w HK => SX.run_idx (P := Tryz.prog) (HK.fact 0 (D.tlbF s1 t.sets) kr) (T := 31) (E := 279) (k := .i64) (i := i) Tryz.underlying31 kr (by rw [SX.SlAt.count D.Set.len kc (HK.fact 0 (D.tlbF s1 t.sets) kr)]; exact (List.getElem?_eq_some_iff.1 he1).1)) kr kr kr kr kr fun ac A => ?_
 refine SX.takeG 6 [0] A H kr kd (fun w HK => SX.run_loadN (P := Tryz.prog) (T := 279) (b := s1.blk) (o := s1.off + i * 45) (D.Set.cells e1) kr kr (fun k hk => SX.SlAt.elem D.Set.len (HK.fact 0 (D.tlbF s1 t.sets) kr) he1 hk)) kr kr kr kr kr fun ac A => SX.takes [0] [(7, none)] A H kr kd kr kr kr (Or.inl kr) fun ac A => SX.callGD 8 [0] A H (sUse_calls e1 y w (hL.below H.below) (hy)) kr kr kr kr (Or.inl kr) fun ac w A H => SX.callD 9 [0] A H (with_calls t i (e1.use y) s1 w H.nos_lt (H.fact' 0 (D.tlbF s1 t.sets) kr) ko (by first | assumption | omega)) kr kr kr kr (Or.inl kr) ?_
 rintro _ ac w ⟨z2, rfl, hz2⟩ A H
 have H := H.learn (D.tlbF z2 ((t.with_ i (e1.use y)).sets)) hz2
 refine SX.act 10 1 [0] A H kr kr kr (Or.inl kr) (k := 1) fun ac w A H => ?_
 refine SX.doneD kr ?_ _
 refine XT (XW (Xr [1] ((D.Tlb.enc (t.with_ i (e1.use y)) z2)) A H ?_))
 refine ⟨z2, ?_, (by rw [D.Tlb.use, D.Tlb.at_, he1]; exact (H.out 0 (D.tlbF z2 ((t.with_ i (e1.use y)).sets)) kr))⟩
 rw [D.Tlb.use, D.Tlb.at_, he1]; rfl
theorem tDrop_calls (t : D.Tlb) (i : Nat) (y : Int)  {no : List Nat} (s1 : SX.Sl) (w0 : World) (hno : ∀ b ∈ no, b < w0.heap.size) (hs1 : (D.tlbF s1 t.sets).P w0 no) (hi : i < t.sets.length) (hn : t.sets.length ≤ 16) (hy : y = 0 ∨ y = 1 ∨ y = 2 ∨ y = 3) : SX.Rets Tryz.prog 187 #[(D.Tlb.enc t s1), .int .i64 (((i : Nat) : Int)), .int .i64 y] w0 (fun r_ w => ∃ y1 : SX.Sl, r_ = (.tuple #[(D.Tlb.enc (t.drop i y) y1), .int .i64 0]) ∧ (D.tlbF y1 ((t.drop i y).sets)).P w no) := by
 refine SX.enterN (args := [(D.Tlb.enc t s1), .int .i64 (((i : Nat) : Int)), .int .i64 y]) (hno := hno) 36 Tryz.func187 rfl kr fun ac A H => ?_
 have H := H.known (D.tlbF s1 t.sets) hs1
 refine XS (XR (Xb [0, 0, 0] A H fun ac w A H => XD (XT (XS (XS (XR (Xb [0, 0, 0] A H fun ac w A H => ?_)))))))
 refine Xs (decide (((i : Nat) : Int) < 0)) (fun h1 => ?_) fun h1 => ?_
 ·
  have A := A.rb 10 h1
  have h1p : ((i : Nat) : Int) < 0 := kp h1
  refine Xb [0, 0, 0, 0, 0, 0, 0, 0, 0, 0, 0, 0, 0, 0] A H fun ac w A H => XD (XT (Xt A (XS (XR (Xb [0, 1, 0] A H fun ac w A H => XD (XT (XW (XU ?_))))))))
  exfalso
  omega
 ·
  have A := A.rb 10 h1
  have h1p : ¬ (((i : Nat) : Int) < 0) := kp h1
  refine Xb [0, 0, 0, 0] A H fun ac w A H => ?_
  have A := A.re 14 (.int .i64 (((s1.n : Nat) : Int))) (.int .i64 (((t.sets.length : Nat) : Int))) kr (by rw [SX.SlAt.count D.Set.len kc (H.fact' 0 (D.tlbF s1 t.sets) kr)])
  refine Xb [0, 0, 0] A H fun ac w A H => ?_
  refine Xs (decide (((i : Nat) : Int) ≥ ((t.sets.length : Nat) : Int))) (fun h2 => ?_) fun h2 => ?_
  ·
   have A := A.rb 17 h2
   have h2p : ((i : Nat) : Int) ≥ ((t.sets.length : Nat) : Int) := kp h2
   refine Xb [0, 0, 0, 0, 0, 0, 0] A H fun ac w A H => XD (XT (Xt A (XS (XR (Xb [0, 1, 0] A H fun ac w A H => XD (XT (XW (XU ?_))))))))
   exfalso
   omega
  ·
   have A := A.rb 17 h2
   have h2p : ¬ (((i : Nat) : Int) ≥ ((t.sets.length : Nat) : Int)) := kp h2
   refine Xb [0, 0, 0, 0] A H fun ac w A H => ?_
   refine Xs (decide (y < 0)) (fun h3 => ?_) fun h3 => ?_
   ·
    have A := A.rb 21 h3
    have h3p : y < 0 := kp h3
    refine Xb [0, 0, 0] A H fun ac w A H => XD (XT (Xt A (XS (XR (Xb [0, 1, 0] A H fun ac w A H => XD (XT (XW (XU ?_))))))))
    exfalso
    omega
   ·
    have A := A.rb 21 h3
    have h3p : ¬ (y < 0) := kp h3
    refine Xb [0, 0, 0] A H fun ac w A H => XD (XT ?_)
    refine Xs (decide (y ≥ 4)) (fun h4 => ?_) fun h4 => ?_
    ·
     have A := A.rb 24 h4
     have h4p : y ≥ 4 := kp h4
     refine Xt A (XS (XR (Xb [0, 1, 0] A H fun ac w A H => XD (XT (XW (XU ?_))))))
     exfalso
     omega
    ·
     have A := A.rb 24 h4
     have h4p : ¬ (y ≥ 4) := kp h4
     refine Xf A (XK (XT (XS (SX.drawn 12 [0] kr A H fun w H => SX.takes [0] [(0, some 0), (1, none), (2, none), (3, some 0), (4, none)] A H kr kd kr kr kr (Or.inl kr) fun ac A => ?_))))
     obtain ⟨e1, he1⟩ := SX.get_of_lt (l := t.sets) (i := i) (hi)
     refine SX.takeG 5 [0] A H kr kd (fun w HK => SX.run_idx (P := Tryz.prog) (HK.fact 0 (D.tlbF s1 t.sets) kr) (T := 31) (E := 279) (k := .i64) (i := i) Tryz.underlying31 kr (by rw [SX.SlAt.count D.Set.len kc (HK.fact 0 (D.tlbF s1 t.sets) kr)]; exact (List.getElem?_eq_some_iff.1 he1).1)) kr kr kr kr kr fun ac A => ?_
     refine SX.takeG 6 [0] A H kr kd (fun w HK => SX.run_loadN (P := Tryz.prog) (T := 279) (b := s1.blk) (o := s1.off + i * 45) (D.Set.cells e1) kr kr (fun k hk => SX.SlAt.elem D.Set.len (HK.fact 0 (D.tlbF s1 t.sets) kr) he1 hk)) kr kr kr kr kr fun ac A => SX.takes [0] [(7, none)] A H kr kd kr kr kr (Or.inl kr) fun ac A => SX.callGD 8 [0] A H (sDrop_calls e1 y w (hy)) kr kr kr kr (Or.inl kr) fun ac w A H => SX.callD 9 [0] A H (with_calls t i (e1.put y D.Entry.zero) s1 w H.nos_lt (H.fact' 0 (D.tlbF s1 t.sets) kr) ko (by first | assumption | omega)) kr kr kr kr (Or.inl kr) ?_
     rintro _ ac w ⟨z2, rfl, hz2⟩ A H
     have H := H.learn (D.tlbF z2 ((t.with_ i (e1.put y D.Entry.zero)).sets)) hz2
     refine SX.act 10 1 [0] A H kr kr kr (Or.inl kr) (k := 1) fun ac w A H => SX.takes [0] [(11, none)] A H kr kd kr kr kr (Or.inl kr) (k := 1) fun ac A => ?_
     refine SX.doneD kr ?_ _
     refine XT (XW (Xr [1, 0] ((.tuple #[(D.Tlb.enc (t.with_ i (e1.put y D.Entry.zero)) z2), .int .i64 0])) A H ?_))
     refine ⟨z2, ?_, (by rw [D.Tlb.drop, D.Tlb.at_, he1]; exact (H.out 0 (D.tlbF z2 ((t.with_ i (e1.put y D.Entry.zero)).sets)) kr))⟩
     rw [D.Tlb.drop, D.Tlb.at_, he1]; rfl
end Go.Proofs.YtfkmcdkncmapmaaGreatDoor
