/- Walks of functions, written by the session's own program wip/sx/sxgen.py; Lean checks them. -/
import Derived.Test.YtfkmcdkncmapmaaGreatDoorY02
import Derived.Test.YtfkmcdkncmapmaaGreatDoorY18
import Derived.Test.YtfkmcdkncmapmaaGreatDoorProg
set_option linter.unusedVariables false
set_option linter.unusedSimpArgs false
set_option maxRecDepth 100000
set_option maxHeartbeats 1000000
namespace Go.Proofs.YtfkmcdkncmapmaaGreatDoor
open Go Go.RowKit
theorem tFind_calls (t : D.Tlb) (asid : Nat) (x : Nat)  {no : List Nat} (s1 : SX.Sl) (w0 : World) (hno : ∀ b ∈ no, b < w0.heap.size) (hs1 : (D.tlbF s1 t.sets).P w0 no) (hL : Ld w0) (ht : t.Ok) (hx : x < 18446744073709551616) : SX.Gives Tryz.prog 208 #[(D.Tlb.enc t s1), .int .u64 (((asid : Nat) : Int)), .int .u64 (((x : Nat) : Int))] w0 ((.tuple #[(D.Entry.enc ((t.find asid x).e)), .int .i64 ((((t.find asid x).i : Nat) : Int)), .int .i64 ((t.find asid x).y), .bool ((t.find asid x).ok)])) := by
 refine SX.enterN (args := [(D.Tlb.enc t s1), .int .u64 (((asid : Nat) : Int)), .int .u64 (((x : Nat) : Int))]) (hno := hno) 54 Tryz.func208 rfl kr fun ac A H => ?_
 have H := H.known (D.tlbF s1 t.sets) hs1
 have htn := ht.n
 refine XS (XR (Xb [0, 0, 0, 0, 0] A H fun ac w A H => XD (XT (XS (XS (XR (Xb [0, 0, 0] A H fun ac w A H => ?_)))))))
 have A := A.re 16 (.int .i64 (((s1.n : Nat) : Int))) (.int .i64 (((t.sets.length : Nat) : Int))) kr (by rw [SX.SlAt.count D.Set.len kc (H.fact' 0 (D.tlbF s1 t.sets) kr)])
 refine Xb [0] A H fun ac w A H => XD (XT ?_)
 refine Xs (((t.sets.length : Nat) : Int) == 0) (fun h1 => ?_) fun h1 => ?_
 ·
  have A := A.rb 17 h1
  have h1p : ((t.sets.length : Nat) : Int) = 0 := kp h1
  refine Xt A (XS (XR (Xb [0, 1, 0, 0, 0] A H fun ac w A H => XD (XT (XW (XU (Xr [1, 0, 0, 0] ((.tuple #[(D.Entry.enc (⟨false, 0, false, 0, 0, 0, (⟨false, false, false, false⟩ : D.Perm), false⟩ : D.Entry)), .int .i64 0, .int .i64 0, .bool false])) A H ?_)))))))
  have hf : t.find asid x = D.Hit.none := by rw [D.Tlb.find, if_pos ko]
  rw [hf]; rfl
 ·
  have A := A.rb 17 h1
  have h1p : ¬ (((t.sets.length : Nat) : Int) = 0) := kp h1
  refine Xf A (XK (XT (XS (XS (XR (Xb [0] A H fun ac w A H => XD (XT (XB (wp_loop_rounds 4 (XO (XS (XR (Xb [0] A H fun ac w A H => XD (XT (XS (Xt A (XK (XT (XS (XB (XS (XR (Xb [0, 0] A H fun ac w A H => XD (XT (XS (SX.drawn 8 [0] kr A H fun w H => SX.takes [0] [(0, none), (1, some 0), (2, none)] A H kr kd kr kr kr (Or.inl kr) fun ac A => ?_))))))))))))))))))))))))))
  have A := A.re 24 (.int .i64 (((s1.n : Nat) : Int))) (.int .i64 (((t.sets.length : Nat) : Int))) kr (by rw [SX.SlAt.count D.Set.len kc (H.fact' 0 (D.tlbF s1 t.sets) kr)])
  refine SX.takes [0] [(3, none), (5, none)] A H kr kd kr kr kr (Or.inl kr) fun ac A => SX.callGD 4 [0] A H (Number_calls x w ko) kr kr kr kr (Or.inl kr) fun ac w A H => SX.callGD 6 [0] A H (tIndex_calls t.sets.length (numberN x) 0 w (hL.below H.below) ko ko (by have := numberN_lt x; omega) ko) kr kr kr kr (Or.inl kr) fun ac w A H => SX.takes [0] [(7, none)] A H kr kd kr kr kr (Or.inl kr) fun ac A => ?_
  refine SX.doneD kr ?_ _
  refine XT (XS (XR (Xb [0, 0, 0] A H fun ac w A H => ?_)))
  obtain ⟨e1, he1⟩ := SX.get_of_lt (l := t.sets) (i := indexT t.sets.length (numberN x) 0) (D.indexT_lt ko)
  refine SX.given A (SX.run_idx (P := Tryz.prog) (H.fact' 0 (D.tlbF s1 t.sets) kr) (T := 31) (E := 279) (k := .i64) (i := indexT t.sets.length (numberN x) 0) Tryz.underlying31 kr (by rw [SX.SlAt.count D.Set.len kc (H.fact' 0 (D.tlbF s1 t.sets) kr)]; exact (List.getElem?_eq_some_iff.1 he1).1)) kr kr fun ac A => ?_
  refine SX.given A (SX.run_loadN (P := Tryz.prog) (T := 279) (b := s1.blk) (o := s1.off + (indexT t.sets.length (numberN x) 0) * 45) (D.Set.cells e1) kr kr (fun k hk => SX.SlAt.elem D.Set.len (H.fact' 0 (D.tlbF s1 t.sets) kr) he1 hk)) kr kr fun ac A => Xb [0, 0, 0] A H fun ac w A H => Xc A H (sFind_calls e1 asid x 0 w (hL.below H.below) ko (by first | exact ht.lv _ (List.mem_of_getElem? he1) | exact ht.lv _ (List.mem_of_getElem? he2) | exact ht.lv _ (List.mem_of_getElem? he3))) fun ac w A H => Xb [0, 0, 0, 0, 0] A H fun ac w A H => XD (XT (XS (XR (Xb [0] A H fun ac w A H => XD (XT ?_)))))
  refine Xs (decide (e1.find asid x 0 ≥ 0)) (fun h2 => ?_) fun h2 => ?_
  ·
   have A := A.rb 41 h2
   refine Xt A (XS (XR ?_))
   rcases (show (e1.find asid x 0) = 0 ∨ (e1.find asid x 0) = 1 ∨ (e1.find asid x 0) = 2 ∨ (e1.find asid x 0) = 3 from by have hb : -1 ≤ (e1.find asid x 0) ∧ (e1.find asid x 0) ≤ 3 := D.Set.first_bd _ _; have := of_decide_eq_true h2; omega) with hg | hg | hg | hg
   ·
    have A := A.re 12 (.int .i64 (if 0 > (e1.find asid x 0) then 0 else (e1.find asid x 0))) (.int .i64 0) kr (by rw [hg]; rfl)
    refine Xb [0, 0, 0, 0] A H fun ac w A H => ?_
    refine SX.given A (SX.run_idx (P := Tryz.prog) (H.fact' 0 (D.tlbF s1 t.sets) kr) (T := 31) (E := 279) (k := .i64) (i := indexT t.sets.length (numberN x) 0) Tryz.underlying31 kr (by rw [SX.SlAt.count D.Set.len kc (H.fact' 0 (D.tlbF s1 t.sets) kr)]; exact (List.getElem?_eq_some_iff.1 he1).1)) kr kr fun ac A => ?_
    refine Xb [0, 0] A H fun ac w A H => SX.given A (SX.run_loadN (P := Tryz.prog) (T := 270) (b := s1.blk) (o := s1.off + (indexT t.sets.length (numberN x) 0) * 45 + 0) [.bool e1.w0.valid, .int .u64 (((e1.w0.asid : Nat) : Int)), .bool e1.w0.global, .int .i64 (e1.w0.level), .int .u64 (((e1.w0.vpn : Nat) : Int)), .int .u64 (((e1.w0.ppn : Nat) : Int)), .bool e1.w0.perm.r, .bool e1.w0.perm.w, .bool e1.w0.perm.x, .bool e1.w0.perm.u, .bool e1.w0.dirty] kr kr (SX.SlAt.part (f := D.Set.cells) D.Set.len (H.fact' 0 (D.tlbF s1 t.sets) kr) he1 0 rfl (show (0 : Nat) + 11 ≤ 45 by decide))) kr kr fun ac A => Xb [0, 0, 1, 0, 0, 0] A H fun ac w A H => XD (XT (XW (XQ (XU (XU (XQ (XU (Xr [1, 0, 0, 0] ((.tuple #[(D.Entry.enc e1.w0), .int .i64 (((indexT t.sets.length (numberN x) 0 : Nat) : Int)), .int .i64 0, .bool true])) A H ?_))))))))
    have qh2 := of_decide_eq_true h2
    have hw0 : t.way asid x 0 = e1.find asid x 0 := by show D.Set.find ((t.sets[t.idx x 0]?).getD D.Set.zero) asid x 0 = _; rw [show t.sets[t.idx x 0]? = some e1 from he1]; rfl
    have ha0 : t.at_ (t.idx x 0) = e1 := by show (t.sets[t.idx x 0]?).getD D.Set.zero = _; rw [show t.sets[t.idx x 0]? = some e1 from he1]; rfl
    have hh : t.hit asid x 0 = ⟨e1.w0, t.idx x 0, 0, true⟩ := by unfold D.Tlb.hit; rw [hw0, hg, ha0]; rfl
    have hf : t.find asid x = t.hit asid x 0 := by rw [D.Tlb.find, if_neg ko, if_pos (by rw [hw0]; omega)]
    rw [hf, hh]; rfl
   ·
    have A := A.re 12 (.int .i64 (if 0 > (e1.find asid x 0) then 0 else (e1.find asid x 0))) (.int .i64 1) kr (by rw [hg]; rfl)
    refine Xb [0, 0, 0, 0] A H fun ac w A H => ?_
    refine SX.given A (SX.run_idx (P := Tryz.prog) (H.fact' 0 (D.tlbF s1 t.sets) kr) (T := 31) (E := 279) (k := .i64) (i := indexT t.sets.length (numberN x) 0) Tryz.underlying31 kr (by rw [SX.SlAt.count D.Set.len kc (H.fact' 0 (D.tlbF s1 t.sets) kr)]; exact (List.getElem?_eq_some_iff.1 he1).1)) kr kr fun ac A => ?_
    refine Xb [0, 0] A H fun ac w A H => SX.given A (SX.run_loadN (P := Tryz.prog) (T := 270) (b := s1.blk) (o := s1.off + (indexT t.sets.length (numberN x) 0) * 45 + 11) [.bool e1.w1.valid, .int .u64 (((e1.w1.asid : Nat) : Int)), .bool e1.w1.global, .int .i64 (e1.w1.level), .int .u64 (((e1.w1.vpn : Nat) : Int)), .int .u64 (((e1.w1.ppn : Nat) : Int)), .bool e1.w1.perm.r, .bool e1.w1.perm.w, .bool e1.w1.perm.x, .bool e1.w1.perm.u, .bool e1.w1.dirty] kr kr (SX.SlAt.part (f := D.Set.cells) D.Set.len (H.fact' 0 (D.tlbF s1 t.sets) kr) he1 11 rfl (show (11 : Nat) + 11 ≤ 45 by decide))) kr kr fun ac A => Xb [0, 0, 1, 0, 0, 0] A H fun ac w A H => XD (XT (XW (XQ (XU (XU (XQ (XU (Xr [1, 0, 0, 0] ((.tuple #[(D.Entry.enc e1.w1), .int .i64 (((indexT t.sets.length (numberN x) 0 : Nat) : Int)), .int .i64 1, .bool true])) A H ?_))))))))
    have qh2 := of_decide_eq_true h2
    have hw0 : t.way asid x 0 = e1.find asid x 0 := by show D.Set.find ((t.sets[t.idx x 0]?).getD D.Set.zero) asid x 0 = _; rw [show t.sets[t.idx x 0]? = some e1 from he1]; rfl
    have ha0 : t.at_ (t.idx x 0) = e1 := by show (t.sets[t.idx x 0]?).getD D.Set.zero = _; rw [show t.sets[t.idx x 0]? = some e1 from he1]; rfl
    have hh : t.hit asid x 0 = ⟨e1.w1, t.idx x 0, 1, true⟩ := by unfold D.Tlb.hit; rw [hw0, hg, ha0]; rfl
    have hf : t.find asid x = t.hit asid x 0 := by rw [D.Tlb.find, if_neg ko, if_pos (by rw [hw0]; omega)]
    rw [hf, hh]; rfl
   ·
    have A := A.re 12 (.int .i64 (if 0 > (e1.find asid x 0) then 0 else (e1.find asid x 0))) (.int .i64 2) kr (by rw [hg]; rfl)
    refine Xb [0, 0, 0, 0] A H fun ac w A H => ?_
    refine SX.given A (SX.run_idx (P := Tryz.prog) (H.fact' 0 (D.tlbF s1 t.sets) kr) (T := 31) (E := 279) (k := .i64) (i := indexT t.sets.length (numberN x) 0) Tryz.underlying31 kr (by rw [SX.SlAt.count D.Set.len kc (H.fact' 0 (D.tlbF s1 t.sets) kr)]; exact (List.getElem?_eq_some_iff.1 he1).1)) kr kr fun ac A => ?_
    refine Xb [0, 0] A H fun ac w A H => SX.given A (SX.run_loadN (P := Tryz.prog) (T := 270) (b := s1.blk) (o := s1.off + (indexT t.sets.length (numberN x) 0) * 45 + 22) [.bool e1.w2.valid, .int .u64 (((e1.w2.asid : Nat) : Int)), .bool e1.w2.global, .int .i64 (e1.w2.level), .int .u64 (((e1.w2.vpn : Nat) : Int)), .int .u64 (((e1.w2.ppn : Nat) : Int)), .bool e1.w2.perm.r, .bool e1.w2.perm.w, .bool e1.w2.perm.x, .bool e1.w2.perm.u, .bool e1.w2.dirty] kr kr (SX.SlAt.part (f := D.Set.cells) D.Set.len (H.fact' 0 (D.tlbF s1 t.sets) kr) he1 22 rfl (show (22 : Nat) + 11 ≤ 45 by decide))) kr kr fun ac A => Xb [0, 0, 1, 0, 0, 0] A H fun ac w A H => XD (XT (XW (XQ (XU (XU (XQ (XU (Xr [1, 0, 0, 0] ((.tuple #[(D.Entry.enc e1.w2), .int .i64 (((indexT t.sets.length (numberN x) 0 : Nat) : Int)), .int .i64 2, .bool true])) A H ?_))))))))
    have qh2 := of_decide_eq_true h2
    have hw0 : t.way asid x 0 = e1.find asid x 0 := by show D.Set.find ((t.sets[t.idx x 0]?).getD D.Set.zero) asid x 0 = _; rw [show t.sets[t.idx x 0]? = some e1 from he1]; rfl
    have ha0 : t.at_ (t.idx x 0) = e1 := by show (t.sets[t.idx x 0]?).getD D.Set.zero = _; rw [show t.sets[t.idx x 0]? = some e1 from he1]; rfl
    have hh : t.hit asid x 0 = ⟨e1.w2, t.idx x 0, 2, true⟩ := by unfold D.Tlb.hit; rw [hw0, hg, ha0]; rfl
    have hf : t.find asid x = t.hit asid x 0 := by rw [D.Tlb.find, if_neg ko, if_pos (by rw [hw0]; omega)]
    rw [hf, hh]; rfl
   ·
    have A := A.re 12 (.int .i64 (if 0 > (e1.find asid x 0) then 0 else (e1.find asid x 0))) (.int .i64 3) kr (by rw [hg]; rfl)
    refine Xb [0, 0, 0, 0] A H fun ac w A H => ?_
    refine SX.given A (SX.run_idx (P := Tryz.prog) (H.fact' 0 (D.tlbF s1 t.sets) kr) (T := 31) (E := 279) (k := .i64) (i := indexT t.sets.length (numberN x) 0) Tryz.underlying31 kr (by rw [SX.SlAt.count D.Set.len kc (H.fact' 0 (D.tlbF s1 t.sets) kr)]; exact (List.getElem?_eq_some_iff.1 he1).1)) kr kr fun ac A => ?_
    refine Xb [0, 0] A H fun ac w A H => SX.given A (SX.run_loadN (P := Tryz.prog) (T := 270) (b := s1.blk) (o := s1.off + (indexT t.sets.length (numberN x) 0) * 45 + 33) [.bool e1.w3.valid, .int .u64 (((e1.w3.asid : Nat) : Int)), .bool e1.w3.global, .int .i64 (e1.w3.level), .int .u64 (((e1.w3.vpn : Nat) : Int)), .int .u64 (((e1.w3.ppn : Nat) : Int)), .bool e1.w3.perm.r, .bool e1.w3.perm.w, .bool e1.w3.perm.x, .bool e1.w3.perm.u, .bool e1.w3.dirty] kr kr (SX.SlAt.part (f := D.Set.cells) D.Set.len (H.fact' 0 (D.tlbF s1 t.sets) kr) he1 33 rfl (show (33 : Nat) + 11 ≤ 45 by decide))) kr kr fun ac A => Xb [0, 0, 1, 0, 0, 0] A H fun ac w A H => XD (XT (XW (XQ (XU (XU (XQ (XU (Xr [1, 0, 0, 0] ((.tuple #[(D.Entry.enc e1.w3), .int .i64 (((indexT t.sets.length (numberN x) 0 : Nat) : Int)), .int .i64 3, .bool true])) A H ?_))))))))
    have qh2 := of_decide_eq_true h2
    have hw0 : t.way asid x 0 = e1.find asid x 0 := by show D.Set.find ((t.sets[t.idx x 0]?).getD D.Set.zero) asid x 0 = _; rw [show t.sets[t.idx x 0]? = some e1 from he1]; rfl
    have ha0 : t.at_ (t.idx x 0) = e1 := by show (t.sets[t.idx x 0]?).getD D.Set.zero = _; rw [show t.sets[t.idx x 0]? = some e1 from he1]; rfl
    have hh : t.hit asid x 0 = ⟨e1.w3, t.idx x 0, 3, true⟩ := by unfold D.Tlb.hit; rw [hw0, hg, ha0]; rfl
    have hf : t.find asid x = t.hit asid x 0 := by rw [D.Tlb.find, if_neg ko, if_pos (by rw [hw0]; omega)]
    rw [hf, hh]; rfl
  ·
   have A := A.rb 41 h2
   refine Xf A (XK (XN (XT (XR (Xb [0, 0] A H fun ac w A H => XD (XT (XO (XS (XR (Xb [0] A H fun ac w A H => XD (XT (XS (Xt A (XK (XT (XS (XB (XS (XR (Xb [0, 0] A H fun ac w A H => XD (XT (XS (SX.drawn 8 [0] kr A H fun w H => SX.takes [0] [(0, none), (1, some 0), (2, none)] A H kr kd kr kr kr (Or.inl kr) fun ac A => ?_)))))))))))))))))))))))
   have A := A.re 24 (.int .i64 (((s1.n : Nat) : Int))) (.int .i64 (((t.sets.length : Nat) : Int))) kr (by rw [SX.SlAt.count D.Set.len kc (H.fact' 0 (D.tlbF s1 t.sets) kr)])
   refine SX.takes [0] [(3, none), (5, none)] A H kr kd kr kr kr (Or.inl kr) fun ac A => SX.callGD 4 [0] A H (Number_calls x w ko) kr kr kr kr (Or.inl kr) fun ac w A H => SX.callGD 6 [0] A H (tIndex_calls t.sets.length (numberN x) 1 w (hL.below H.below) ko ko (by have := numberN_lt x; omega) ko) kr kr kr kr (Or.inl kr) fun ac w A H => SX.takes [0] [(7, none)] A H kr kd kr kr kr (Or.inl kr) fun ac A => ?_
   refine SX.doneD kr ?_ _
   refine XT (XS (XR (Xb [0, 0, 0] A H fun ac w A H => ?_)))
   obtain ⟨e2, he2⟩ := SX.get_of_lt (l := t.sets) (i := indexT t.sets.length (numberN x) 1) (D.indexT_lt ko)
   refine SX.given A (SX.run_idx (P := Tryz.prog) (H.fact' 0 (D.tlbF s1 t.sets) kr) (T := 31) (E := 279) (k := .i64) (i := indexT t.sets.length (numberN x) 1) Tryz.underlying31 kr (by rw [SX.SlAt.count D.Set.len kc (H.fact' 0 (D.tlbF s1 t.sets) kr)]; exact (List.getElem?_eq_some_iff.1 he2).1)) kr kr fun ac A => ?_
   refine SX.given A (SX.run_loadN (P := Tryz.prog) (T := 279) (b := s1.blk) (o := s1.off + (indexT t.sets.length (numberN x) 1) * 45) (D.Set.cells e2) kr kr (fun k hk => SX.SlAt.elem D.Set.len (H.fact' 0 (D.tlbF s1 t.sets) kr) he2 hk)) kr kr fun ac A => Xb [0, 0, 0] A H fun ac w A H => Xc A H (sFind_calls e2 asid x 1 w (hL.below H.below) ko (by first | exact ht.lv _ (List.mem_of_getElem? he1) | exact ht.lv _ (List.mem_of_getElem? he2) | exact ht.lv _ (List.mem_of_getElem? he3))) fun ac w A H => Xb [0, 0, 0, 0, 0] A H fun ac w A H => XD (XT (XS (XR (Xb [0] A H fun ac w A H => XD (XT ?_)))))
   refine Xs (decide (e2.find asid x 1 ≥ 0)) (fun h3 => ?_) fun h3 => ?_
   ·
    have A := A.rb 41 h3
    refine Xt A (XS (XR ?_))
    rcases (show (e2.find asid x 1) = 0 ∨ (e2.find asid x 1) = 1 ∨ (e2.find asid x 1) = 2 ∨ (e2.find asid x 1) = 3 from by have hb : -1 ≤ (e2.find asid x 1) ∧ (e2.find asid x 1) ≤ 3 := D.Set.first_bd _ _; have := of_decide_eq_true h3; omega) with hg | hg | hg | hg
    ·
     have A := A.re 12 (.int .i64 (if 0 > (e2.find asid x 1) then 0 else (e2.find asid x 1))) (.int .i64 0) kr (by rw [hg]; rfl)
     refine Xb [0, 0, 0, 0] A H fun ac w A H => ?_
     refine SX.given A (SX.run_idx (P := Tryz.prog) (H.fact' 0 (D.tlbF s1 t.sets) kr) (T := 31) (E := 279) (k := .i64) (i := indexT t.sets.length (numberN x) 1) Tryz.underlying31 kr (by rw [SX.SlAt.count D.Set.len kc (H.fact' 0 (D.tlbF s1 t.sets) kr)]; exact (List.getElem?_eq_some_iff.1 he2).1)) kr kr fun ac A => ?_
     refine Xb [0, 0] A H fun ac w A H => SX.given A (SX.run_loadN (P := Tryz.prog) (T := 270) (b := s1.blk) (o := s1.off + (indexT t.sets.length (numberN x) 1) * 45 + 0) [.bool e2.w0.valid, .int .u64 (((e2.w0.asid : Nat) : Int)), .bool e2.w0.global, .int .i64 (e2.w0.level), .int .u64 (((e2.w0.vpn : Nat) : Int)), .int .u64 (((e2.w0.ppn : Nat) : Int)), .bool e2.w0.perm.r, .bool e2.w0.perm.w, .bool e2.w0.perm.x, .bool e2.w0.perm.u, .bool e2.w0.dirty] kr kr (SX.SlAt.part (f := D.Set.cells) D.Set.len (H.fact' 0 (D.tlbF s1 t.sets) kr) he2 0 rfl (show (0 : Nat) + 11 ≤ 45 by decide))) kr kr fun ac A => Xb [0, 0, 1, 0, 0, 0] A H fun ac w A H => XD (XT (XW (XQ (XU (XU (XQ (XU (Xr [1, 0, 0, 0] ((.tuple #[(D.Entry.enc e2.w0), .int .i64 (((indexT t.sets.length (numberN x) 1 : Nat) : Int)), .int .i64 0, .bool true])) A H ?_))))))))
     have qh2 := of_decide_eq_false h2
     have qh3 := of_decide_eq_true h3
     have hw0 : t.way asid x 0 = e1.find asid x 0 := by show D.Set.find ((t.sets[t.idx x 0]?).getD D.Set.zero) asid x 0 = _; rw [show t.sets[t.idx x 0]? = some e1 from he1]; rfl
     have ha0 : t.at_ (t.idx x 0) = e1 := by show (t.sets[t.idx x 0]?).getD D.Set.zero = _; rw [show t.sets[t.idx x 0]? = some e1 from he1]; rfl
     have hw1 : t.way asid x 1 = e2.find asid x 1 := by show D.Set.find ((t.sets[t.idx x 1]?).getD D.Set.zero) asid x 1 = _; rw [show t.sets[t.idx x 1]? = some e2 from he2]; rfl
     have ha1 : t.at_ (t.idx x 1) = e2 := by show (t.sets[t.idx x 1]?).getD D.Set.zero = _; rw [show t.sets[t.idx x 1]? = some e2 from he2]; rfl
     have hh : t.hit asid x 1 = ⟨e2.w0, t.idx x 1, 0, true⟩ := by unfold D.Tlb.hit; rw [hw1, hg, ha1]; rfl
     have hf : t.find asid x = t.hit asid x 1 := by rw [D.Tlb.find, if_neg ko, if_neg (by rw [hw0]; omega), if_pos (by rw [hw1]; omega)]
     rw [hf, hh]; rfl
    ·
     have A := A.re 12 (.int .i64 (if 0 > (e2.find asid x 1) then 0 else (e2.find asid x 1))) (.int .i64 1) kr (by rw [hg]; rfl)
     refine Xb [0, 0, 0, 0] A H fun ac w A H => ?_
     refine SX.given A (SX.run_idx (P := Tryz.prog) (H.fact' 0 (D.tlbF s1 t.sets) kr) (T := 31) (E := 279) (k := .i64) (i := indexT t.sets.length (numberN x) 1) Tryz.underlying31 kr (by rw [SX.SlAt.count D.Set.len kc (H.fact' 0 (D.tlbF s1 t.sets) kr)]; exact (List.getElem?_eq_some_iff.1 he2).1)) kr kr fun ac A => ?_
     refine Xb [0, 0] A H fun ac w A H => SX.given A (SX.run_loadN (P := Tryz.prog) (T := 270) (b := s1.blk) (o := s1.off + (indexT t.sets.length (numberN x) 1) * 45 + 11) [.bool e2.w1.valid, .int .u64 (((e2.w1.asid : Nat) : Int)), .bool e2.w1.global, .int .i64 (e2.w1.level), .int .u64 (((e2.w1.vpn : Nat) : Int)), .int .u64 (((e2.w1.ppn : Nat) : Int)), .bool e2.w1.perm.r, .bool e2.w1.perm.w, .bool e2.w1.perm.x, .bool e2.w1.perm.u, .bool e2.w1.dirty] kr kr (SX.SlAt.part (f := D.Set.cells) D.Set.len (H.fact' 0 (D.tlbF s1 t.sets) kr) he2 11 rfl (show (11 : Nat) + 11 ≤ 45 by decide))) kr kr fun ac A => Xb [0, 0, 1, 0, 0, 0] A H fun ac w A H => XD (XT (XW (XQ (XU (XU (XQ (XU (Xr [1, 0, 0, 0] ((.tuple #[(D.Entry.enc e2.w1), .int .i64 (((indexT t.sets.length (numberN x) 1 : Nat) : Int)), .int .i64 1, .bool true])) A H ?_))))))))
     have qh2 := of_decide_eq_false h2
     have qh3 := of_decide_eq_true h3
     have hw0 : t.way asid x 0 = e1.find asid x 0 := by show D.Set.find ((t.sets[t.idx x 0]?).getD D.Set.zero) asid x 0 = _; rw [show t.sets[t.idx x 0]? = some e1 from he1]; rfl
     have ha0 : t.at_ (t.idx x 0) = e1 := by show (t.sets[t.idx x 0]?).getD D.Set.zero = _; rw [show t.sets[t.idx x 0]? = some e1 from he1]; rfl
     have hw1 : t.way asid x 1 = e2.find asid x 1 := by show D.Set.find ((t.sets[t.idx x 1]?).getD D.Set.zero) asid x 1 = _; rw [show t.sets[t.idx x 1]? = some e2 from he2]; rfl
     have ha1 : t.at_ (t.idx x 1) = e2 := by show (t.sets[t.idx x 1]?).getD D.Set.zero = _; rw [show t.sets[t.idx x 1]? = some e2 from he2]; rfl
     have hh : t.hit asid x 1 = ⟨e2.w1, t.idx x 1, 1, true⟩ := by unfold D.Tlb.hit; rw [hw1, hg, ha1]; rfl
     have hf : t.find asid x = t.hit asid x 1 := by rw [D.Tlb.find, if_neg ko, if_neg (by rw [hw0]; omega), if_pos (by rw [hw1]; omega)]
     rw [hf, hh]; rfl
    ·
     have A := A.re 12 (.int .i64 (if 0 > (e2.find asid x 1) then 0 else (e2.find asid x 1))) (.int .i64 2) kr (by rw [hg]; rfl)
     refine Xb [0, 0, 0, 0] A H fun ac w A H => ?_
     refine SX.given A (SX.run_idx (P := Tryz.prog) (H.fact' 0 (D.tlbF s1 t.sets) kr) (T := 31) (E := 279) (k := .i64) (i := indexT t.sets.length (numberN x) 1) Tryz.underlying31 kr (by rw [SX.SlAt.count D.Set.len kc (H.fact' 0 (D.tlbF s1 t.sets) kr)]; exact (List.getElem?_eq_some_iff.1 he2).1)) kr kr fun ac A => ?_
     refine Xb [0, 0] A H fun ac w A H => SX.given A (SX.run_loadN (P := Tryz.prog) (T := 270) (b := s1.blk) (o := s1.off + (indexT t.sets.length (numberN x) 1) * 45 + 22) [.bool e2.w2.valid, .int .u64 (((e2.w2.asid : Nat) : Int)), .bool e2.w2.global, .int .i64 (e2.w2.level), .int .u64 (((e2.w2.vpn : Nat) : Int)), .int .u64 (((e2.w2.ppn : Nat) : Int)), .bool e2.w2.perm.r, .bool e2.w2.perm.w, .bool e2.w2.perm.x, .bool e2.w2.perm.u, .bool e2.w2.dirty] kr kr (SX.SlAt.part (f := D.Set.cells) D.Set.len (H.fact' 0 (D.tlbF s1 t.sets) kr) he2 22 rfl (show (22 : Nat) + 11 ≤ 45 by decide))) kr kr fun ac A => Xb [0, 0, 1, 0, 0, 0] A H fun ac w A H => XD (XT (XW (XQ (XU (XU (XQ (XU (Xr [1, 0, 0, 0] ((.tuple #[(D.Entry.enc e2.w2), .int .i64 (((indexT t.sets.length (numberN x) 1 : Nat) : Int)), .int .i64 2, .bool true])) A H ?_))))))))
     have qh2 := of_decide_eq_false h2
     have qh3 := of_decide_eq_true h3
     have hw0 : t.way asid x 0 = e1.find asid x 0 := by show D.Set.find ((t.sets[t.idx x 0]?).getD D.Set.zero) asid x 0 = _; rw [show t.sets[t.idx x 0]? = some e1 from he1]; rfl
     have ha0 : t.at_ (t.idx x 0) = e1 := by show (t.sets[t.idx x 0]?).getD D.Set.zero = _; rw [show t.sets[t.idx x 0]? = some e1 from he1]; rfl
     have hw1 : t.way asid x 1 = e2.find asid x 1 := by show D.Set.find ((t.sets[t.idx x 1]?).getD D.Set.zero) asid x 1 = _; rw [show t.sets[t.idx x 1]? = some e2 from he2]; rfl
     have ha1 : t.at_ (t.idx x 1) = e2 := by show (t.sets[t.idx x 1]?).getD D.Set.zero = _; rw [show t.sets[t.idx x 1]? = some e2 from he2]; rfl
     have hh : t.hit asid x 1 = ⟨e2.w2, t.idx x 1, 2, true⟩ := by unfold D.Tlb.hit; rw [hw1, hg, ha1]; rfl
     have hf : t.find asid x = t.hit asid x 1 := by rw [D.Tlb.find, if_neg ko, if_neg (by rw [hw0]; omega), if_pos (by rw [hw1]; omega)]
     rw [hf, hh]; rfl
    ·
     have A := A.re 12 (.int .i64 (if 0 > (e2.find asid x 1) then 0 else (e2.find asid x 1))) (.int .i64 3) kr (by rw [hg]; rfl)
     refine Xb [0, 0, 0, 0] A H fun ac w A H => ?_
     refine SX.given A (SX.run_idx (P := Tryz.prog) (H.fact' 0 (D.tlbF s1 t.sets) kr) (T := 31) (E := 279) (k := .i64) (i := indexT t.sets.length (numberN x) 1) Tryz.underlying31 kr (by rw [SX.SlAt.count D.Set.len kc (H.fact' 0 (D.tlbF s1 t.sets) kr)]; exact (List.getElem?_eq_some_iff.1 he2).1)) kr kr fun ac A => ?_
     refine Xb [0, 0] A H fun ac w A H => SX.given A (SX.run_loadN (P := Tryz.prog) (T := 270) (b := s1.blk) (o := s1.off + (indexT t.sets.length (numberN x) 1) * 45 + 33) [.bool e2.w3.valid, .int .u64 (((e2.w3.asid : Nat) : Int)), .bool e2.w3.global, .int .i64 (e2.w3.level), .int .u64 (((e2.w3.vpn : Nat) : Int)), .int .u64 (((e2.w3.ppn : Nat) : Int)), .bool e2.w3.perm.r, .bool e2.w3.perm.w, .bool e2.w3.perm.x, .bool e2.w3.perm.u, .bool e2.w3.dirty] kr kr (SX.SlAt.part (f := D.Set.cells) D.Set.len (H.fact' 0 (D.tlbF s1 t.sets) kr) he2 33 rfl (show (33 : Nat) + 11 ≤ 45 by decide))) kr kr fun ac A => Xb [0, 0, 1, 0, 0, 0] A H fun ac w A H => XD (XT (XW (XQ (XU (XU (XQ (XU (Xr [1, 0, 0, 0] ((.tuple #[(D.Entry.enc e2.w3), .int .i64 (((indexT t.sets.length (numberN x) 1 : Nat) : Int)), .int .i64 3, .bool true])) A H ?_))))))))
     have qh2 := of_decide_eq_false h2
     have qh3 := of_decide_eq_true h3
     have hw0 : t.way asid x 0 = e1.find asid x 0 := by show D.Set.find ((t.sets[t.idx x 0]?).getD D.Set.zero) asid x 0 = _; rw [show t.sets[t.idx x 0]? = some e1 from he1]; rfl
     have ha0 : t.at_ (t.idx x 0) = e1 := by show (t.sets[t.idx x 0]?).getD D.Set.zero = _; rw [show t.sets[t.idx x 0]? = some e1 from he1]; rfl
     have hw1 : t.way asid x 1 = e2.find asid x 1 := by show D.Set.find ((t.sets[t.idx x 1]?).getD D.Set.zero) asid x 1 = _; rw [show t.sets[t.idx x 1]? = some e2 from he2]; rfl
     have ha1 : t.at_ (t.idx x 1) = e2 := by show (t.sets[t.idx x 1]?).getD D.Set.zero = _; rw [show t.sets[t.idx x 1]? = some e2 from he2]; rfl
     have hh : t.hit asid x 1 = ⟨e2.w3, t.idx x 1, 3, true⟩ := by unfold D.Tlb.hit; rw [hw1, hg, ha1]; rfl
     have hf : t.find asid x = t.hit asid x 1 := by rw [D.Tlb.find, if_neg ko, if_neg (by rw [hw0]; omega), if_pos (by rw [hw1]; omega)]
     rw [hf, hh]; rfl
   ·
    have A := A.rb 41 h3
    refine Xf A (XK (XN (XT (XR (Xb [0, 0] A H fun ac w A H => XD (XT (XO (XS (XR (Xb [0] A H fun ac w A H => XD (XT (XS (Xt A (XK (XT (XS (XB (XS (XR (Xb [0, 0] A H fun ac w A H => XD (XT (XS (SX.drawn 8 [0] kr A H fun w H => SX.takes [0] [(0, none), (1, some 0), (2, none)] A H kr kd kr kr kr (Or.inl kr) fun ac A => ?_)))))))))))))))))))))))
    have A := A.re 24 (.int .i64 (((s1.n : Nat) : Int))) (.int .i64 (((t.sets.length : Nat) : Int))) kr (by rw [SX.SlAt.count D.Set.len kc (H.fact' 0 (D.tlbF s1 t.sets) kr)])
    refine SX.takes [0] [(3, none), (5, none)] A H kr kd kr kr kr (Or.inl kr) fun ac A => SX.callGD 4 [0] A H (Number_calls x w ko) kr kr kr kr (Or.inl kr) fun ac w A H => SX.callGD 6 [0] A H (tIndex_calls t.sets.length (numberN x) 2 w (hL.below H.below) ko ko (by have := numberN_lt x; omega) ko) kr kr kr kr (Or.inl kr) fun ac w A H => SX.takes [0] [(7, none)] A H kr kd kr kr kr (Or.inl kr) fun ac A => ?_
    refine SX.doneD kr ?_ _
    refine XT (XS (XR (Xb [0, 0, 0] A H fun ac w A H => ?_)))
    obtain ⟨e3, he3⟩ := SX.get_of_lt (l := t.sets) (i := indexT t.sets.length (numberN x) 2) (D.indexT_lt ko)
    refine SX.given A (SX.run_idx (P := Tryz.prog) (H.fact' 0 (D.tlbF s1 t.sets) kr) (T := 31) (E := 279) (k := .i64) (i := indexT t.sets.length (numberN x) 2) Tryz.underlying31 kr (by rw [SX.SlAt.count D.Set.len kc (H.fact' 0 (D.tlbF s1 t.sets) kr)]; exact (List.getElem?_eq_some_iff.1 he3).1)) kr kr fun ac A => ?_
    refine SX.given A (SX.run_loadN (P := Tryz.prog) (T := 279) (b := s1.blk) (o := s1.off + (indexT t.sets.length (numberN x) 2) * 45) (D.Set.cells e3) kr kr (fun k hk => SX.SlAt.elem D.Set.len (H.fact' 0 (D.tlbF s1 t.sets) kr) he3 hk)) kr kr fun ac A => Xb [0, 0, 0] A H fun ac w A H => Xc A H (sFind_calls e3 asid x 2 w (hL.below H.below) ko (by first | exact ht.lv _ (List.mem_of_getElem? he1) | exact ht.lv _ (List.mem_of_getElem? he2) | exact ht.lv _ (List.mem_of_getElem? he3))) fun ac w A H => Xb [0, 0, 0, 0, 0] A H fun ac w A H => XD (XT (XS (XR (Xb [0] A H fun ac w A H => XD (XT ?_)))))
    refine Xs (decide (e3.find asid x 2 ≥ 0)) (fun h4 => ?_) fun h4 => ?_
    ·
     have A := A.rb 41 h4
     refine Xt A (XS (XR ?_))
     rcases (show (e3.find asid x 2) = 0 ∨ (e3.find asid x 2) = 1 ∨ (e3.find asid x 2) = 2 ∨ (e3.find asid x 2) = 3 from by have hb : -1 ≤ (e3.find asid x 2) ∧ (e3.find asid x 2) ≤ 3 := D.Set.first_bd _ _; have := of_decide_eq_true h4; omega) with hg | hg | hg | hg
     ·
      have A := A.re 12 (.int .i64 (if 0 > (e3.find asid x 2) then 0 else (e3.find asid x 2))) (.int .i64 0) kr (by rw [hg]; rfl)
      refine Xb [0, 0, 0, 0] A H fun ac w A H => ?_
      refine SX.given A (SX.run_idx (P := Tryz.prog) (H.fact' 0 (D.tlbF s1 t.sets) kr) (T := 31) (E := 279) (k := .i64) (i := indexT t.sets.length (numberN x) 2) Tryz.underlying31 kr (by rw [SX.SlAt.count D.Set.len kc (H.fact' 0 (D.tlbF s1 t.sets) kr)]; exact (List.getElem?_eq_some_iff.1 he3).1)) kr kr fun ac A => ?_
      refine Xb [0, 0] A H fun ac w A H => SX.given A (SX.run_loadN (P := Tryz.prog) (T := 270) (b := s1.blk) (o := s1.off + (indexT t.sets.length (numberN x) 2) * 45 + 0) [.bool e3.w0.valid, .int .u64 (((e3.w0.asid : Nat) : Int)), .bool e3.w0.global, .int .i64 (e3.w0.level), .int .u64 (((e3.w0.vpn : Nat) : Int)), .int .u64 (((e3.w0.ppn : Nat) : Int)), .bool e3.w0.perm.r, .bool e3.w0.perm.w, .bool e3.w0.perm.x, .bool e3.w0.perm.u, .bool e3.w0.dirty] kr kr (SX.SlAt.part (f := D.Set.cells) D.Set.len (H.fact' 0 (D.tlbF s1 t.sets) kr) he3 0 rfl (show (0 : Nat) + 11 ≤ 45 by decide))) kr kr fun ac A => Xb [0, 0, 1, 0, 0, 0] A H fun ac w A H => XD (XT (XW (XQ (XU (XU (XQ (XU (Xr [1, 0, 0, 0] ((.tuple #[(D.Entry.enc e3.w0), .int .i64 (((indexT t.sets.length (numberN x) 2 : Nat) : Int)), .int .i64 0, .bool true])) A H ?_))))))))
      have qh2 := of_decide_eq_false h2
      have qh3 := of_decide_eq_false h3
      have qh4 := of_decide_eq_true h4
      have hw0 : t.way asid x 0 = e1.find asid x 0 := by show D.Set.find ((t.sets[t.idx x 0]?).getD D.Set.zero) asid x 0 = _; rw [show t.sets[t.idx x 0]? = some e1 from he1]; rfl
      have ha0 : t.at_ (t.idx x 0) = e1 := by show (t.sets[t.idx x 0]?).getD D.Set.zero = _; rw [show t.sets[t.idx x 0]? = some e1 from he1]; rfl
      have hw1 : t.way asid x 1 = e2.find asid x 1 := by show D.Set.find ((t.sets[t.idx x 1]?).getD D.Set.zero) asid x 1 = _; rw [show t.sets[t.idx x 1]? = some e2 from he2]; rfl
      have ha1 : t.at_ (t.idx x 1) = e2 := by show (t.sets[t.idx x 1]?).getD D.Set.zero = _; rw [show t.sets[t.idx x 1]? = some e2 from he2]; rfl
      have hw2 : t.way asid x 2 = e3.find asid x 2 := by show D.Set.find ((t.sets[t.idx x 2]?).getD D.Set.zero) asid x 2 = _; rw [show t.sets[t.idx x 2]? = some e3 from he3]; rfl
      have ha2 : t.at_ (t.idx x 2) = e3 := by show (t.sets[t.idx x 2]?).getD D.Set.zero = _; rw [show t.sets[t.idx x 2]? = some e3 from he3]; rfl
      have hh : t.hit asid x 2 = ⟨e3.w0, t.idx x 2, 0, true⟩ := by unfold D.Tlb.hit; rw [hw2, hg, ha2]; rfl
      have hf : t.find asid x = t.hit asid x 2 := by rw [D.Tlb.find, if_neg ko, if_neg (by rw [hw0]; omega), if_neg (by rw [hw1]; omega), if_pos (by rw [hw2]; omega)]
      rw [hf, hh]; rfl
     ·
      have A := A.re 12 (.int .i64 (if 0 > (e3.find asid x 2) then 0 else (e3.find asid x 2))) (.int .i64 1) kr (by rw [hg]; rfl)
      refine Xb [0, 0, 0, 0] A H fun ac w A H => ?_
      refine SX.given A (SX.run_idx (P := Tryz.prog) (H.fact' 0 (D.tlbF s1 t.sets) kr) (T := 31) (E := 279) (k := .i64) (i := indexT t.sets.length (numberN x) 2) Tryz.underlying31 kr (by rw [SX.SlAt.count D.Set.len kc (H.fact' 0 (D.tlbF s1 t.sets) kr)]; exact (List.getElem?_eq_some_iff.1 he3).1)) kr kr fun ac A => ?_
      refine Xb [0, 0] A H fun ac w A H => SX.given A (SX.run_loadN (P := Tryz.prog) (T := 270) (b := s1.blk) (o := s1.off + (indexT t.sets.length (numberN x) 2) * 45 + 11) [.bool e3.w1.valid, .int .u64 (((e3.w1.asid : Nat) : Int)), .bool e3.w1.global, .int .i64 (e3.w1.level), .int .u64 (((e3.w1.vpn : Nat) : Int)), .int .u64 (((e3.w1.ppn : Nat) : Int)), .bool e3.w1.perm.r, .bool e3.w1.perm.w, .bool e3.w1.perm.x, .bool e3.w1.perm.u, .bool e3.w1.dirty] kr kr (SX.SlAt.part (f := D.Set.cells) D.Set.len (H.fact' 0 (D.tlbF s1 t.sets) kr) he3 11 rfl (show (11 : Nat) + 11 ≤ 45 by decide))) kr kr fun ac A => Xb [0, 0, 1, 0, 0, 0] A H fun ac w A H => XD (XT (XW (XQ (XU (XU (XQ (XU (Xr [1, 0, 0, 0] ((.tuple #[(D.Entry.enc e3.w1), .int .i64 (((indexT t.sets.length (numberN x) 2 : Nat) : Int)), .int .i64 1, .bool true])) A H ?_))))))))
      have qh2 := of_decide_eq_false h2
      have qh3 := of_decide_eq_false h3
      have qh4 := of_decide_eq_true h4
      have hw0 : t.way asid x 0 = e1.find asid x 0 := by show D.Set.find ((t.sets[t.idx x 0]?).getD D.Set.zero) asid x 0 = _; rw [show t.sets[t.idx x 0]? = some e1 from he1]; rfl
      have ha0 : t.at_ (t.idx x 0) = e1 := by show (t.sets[t.idx x 0]?).getD D.Set.zero = _; rw [show t.sets[t.idx x 0]? = some e1 from he1]; rfl
      have hw1 : t.way asid x 1 = e2.find asid x 1 := by show D.Set.find ((t.sets[t.idx x 1]?).getD D.Set.zero) asid x 1 = _; rw [show t.sets[t.idx x 1]? = some e2 from he2]; rfl
      have ha1 : t.at_ (t.idx x 1) = e2 := by show (t.sets[t.idx x 1]?).getD D.Set.zero = _; rw [show t.sets[t.idx x 1]? = some e2 from he2]; rfl
      have hw2 : t.way asid x 2 = e3.find asid x 2 := by show D.Set.find ((t.sets[t.idx x 2]?).getD D.Set.zero) asid x 2 = _; rw [show t.sets[t.idx x 2]? = some e3 from he3]; rfl
      have ha2 : t.at_ (t.idx x 2) = e3 := by show (t.sets[t.idx x 2]?).getD D.Set.zero = _; rw [show t.sets[t.idx x 2]? = some e3 from he3]; rfl
      have hh : t.hit asid x 2 = ⟨e3.w1, t.idx x 2, 1, true⟩ := by unfold D.Tlb.hit; rw [hw2, hg, ha2]; rfl
      have hf : t.find asid x = t.hit asid x 2 := by rw [D.Tlb.find, if_neg ko, if_neg (by rw [hw0]; omega), if_neg (by rw [hw1]; omega), if_pos (by rw [hw2]; omega)]
      rw [hf, hh]; rfl
     ·
      have A := A.re 12 (.int .i64 (if 0 > (e3.find asid x 2) then 0 else (e3.find asid x 2))) (.int .i64 2) kr (by rw [hg]; rfl)
      refine Xb [0, 0, 0, 0] A H fun ac w A H => ?_
      refine SX.given A (SX.run_idx (P := Tryz.prog) (H.fact' 0 (D.tlbF s1 t.sets) kr) (T := 31) (E := 279) (k := .i64) (i := indexT t.sets.length (numberN x) 2) Tryz.underlying31 kr (by rw [SX.SlAt.count D.Set.len kc (H.fact' 0 (D.tlbF s1 t.sets) kr)]; exact (List.getElem?_eq_some_iff.1 he3).1)) kr kr fun ac A => ?_
      refine Xb [0, 0] A H fun ac w A H => SX.given A (SX.run_loadN (P := Tryz.prog) (T := 270) (b := s1.blk) (o := s1.off + (indexT t.sets.length (numberN x) 2) * 45 + 22) [.bool e3.w2.valid, .int .u64 (((e3.w2.asid : Nat) : Int)), .bool e3.w2.global, .int .i64 (e3.w2.level), .int .u64 (((e3.w2.vpn : Nat) : Int)), .int .u64 (((e3.w2.ppn : Nat) : Int)), .bool e3.w2.perm.r, .bool e3.w2.perm.w, .bool e3.w2.perm.x, .bool e3.w2.perm.u, .bool e3.w2.dirty] kr kr (SX.SlAt.part (f := D.Set.cells) D.Set.len (H.fact' 0 (D.tlbF s1 t.sets) kr) he3 22 rfl (show (22 : Nat) + 11 ≤ 45 by decide))) kr kr fun ac A => Xb [0, 0, 1, 0, 0, 0] A H fun ac w A H => XD (XT (XW (XQ (XU (XU (XQ (XU (Xr [1, 0, 0, 0] ((.tuple #[(D.Entry.enc e3.w2), .int .i64 (((indexT t.sets.length (numberN x) 2 : Nat) : Int)), .int .i64 2, .bool true])) A H ?_))))))))
      have qh2 := of_decide_eq_false h2
      have qh3 := of_decide_eq_false h3
      have qh4 := of_decide_eq_true h4
      have hw0 : t.way asid x 0 = e1.find asid x 0 := by show D.Set.find ((t.sets[t.idx x 0]?).getD D.Set.zero) asid x 0 = _; rw [show t.sets[t.idx x 0]? = some e1 from he1]; rfl
      have ha0 : t.at_ (t.idx x 0) = e1 := by show (t.sets[t.idx x 0]?).getD D.Set.zero = _; rw [show t.sets[t.idx x 0]? = some e1 from he1]; rfl
      have hw1 : t.way asid x 1 = e2.find asid x 1 := by show D.Set.find ((t.sets[t.idx x 1]?).getD D.Set.zero) asid x 1 = _; rw [show t.sets[t.idx x 1]? = some e2 from he2]; rfl
      have ha1 : t.at_ (t.idx x 1) = e2 := by show (t.sets[t.idx x 1]?).getD D.Set.zero = _; rw [show t.sets[t.idx x 1]? = some e2 from he2]; rfl
      have hw2 : t.way asid x 2 = e3.find asid x 2 := by show D.Set.find ((t.sets[t.idx x 2]?).getD D.Set.zero) asid x 2 = _; rw [show t.sets[t.idx x 2]? = some e3 from he3]; rfl
      have ha2 : t.at_ (t.idx x 2) = e3 := by show (t.sets[t.idx x 2]?).getD D.Set.zero = _; rw [show t.sets[t.idx x 2]? = some e3 from he3]; rfl
      have hh : t.hit asid x 2 = ⟨e3.w2, t.idx x 2, 2, true⟩ := by unfold D.Tlb.hit; rw [hw2, hg, ha2]; rfl
      have hf : t.find asid x = t.hit asid x 2 := by rw [D.Tlb.find, if_neg ko, if_neg (by rw [hw0]; omega), if_neg (by rw [hw1]; omega), if_pos (by rw [hw2]; omega)]
      rw [hf, hh]; rfl
     ·
      have A := A.re 12 (.int .i64 (if 0 > (e3.find asid x 2) then 0 else (e3.find asid x 2))) (.int .i64 3) kr (by rw [hg]; rfl)
      refine Xb [0, 0, 0, 0] A H fun ac w A H => ?_
      refine SX.given A (SX.run_idx (P := Tryz.prog) (H.fact' 0 (D.tlbF s1 t.sets) kr) (T := 31) (E := 279) (k := .i64) (i := indexT t.sets.length (numberN x) 2) Tryz.underlying31 kr (by rw [SX.SlAt.count D.Set.len kc (H.fact' 0 (D.tlbF s1 t.sets) kr)]; exact (List.getElem?_eq_some_iff.1 he3).1)) kr kr fun ac A => ?_
      refine Xb [0, 0] A H fun ac w A H => SX.given A (SX.run_loadN (P := Tryz.prog) (T := 270) (b := s1.blk) (o := s1.off + (indexT t.sets.length (numberN x) 2) * 45 + 33) [.bool e3.w3.valid, .int .u64 (((e3.w3.asid : Nat) : Int)), .bool e3.w3.global, .int .i64 (e3.w3.level), .int .u64 (((e3.w3.vpn : Nat) : Int)), .int .u64 (((e3.w3.ppn : Nat) : Int)), .bool e3.w3.perm.r, .bool e3.w3.perm.w, .bool e3.w3.perm.x, .bool e3.w3.perm.u, .bool e3.w3.dirty] kr kr (SX.SlAt.part (f := D.Set.cells) D.Set.len (H.fact' 0 (D.tlbF s1 t.sets) kr) he3 33 rfl (show (33 : Nat) + 11 ≤ 45 by decide))) kr kr fun ac A => Xb [0, 0, 1, 0, 0, 0] A H fun ac w A H => XD (XT (XW (XQ (XU (XU (XQ (XU (Xr [1, 0, 0, 0] ((.tuple #[(D.Entry.enc e3.w3), .int .i64 (((indexT t.sets.length (numberN x) 2 : Nat) : Int)), .int .i64 3, .bool true])) A H ?_))))))))
      have qh2 := of_decide_eq_false h2
      have qh3 := of_decide_eq_false h3
      have qh4 := of_decide_eq_true h4
      have hw0 : t.way asid x 0 = e1.find asid x 0 := by show D.Set.find ((t.sets[t.idx x 0]?).getD D.Set.zero) asid x 0 = _; rw [show t.sets[t.idx x 0]? = some e1 from he1]; rfl
      have ha0 : t.at_ (t.idx x 0) = e1 := by show (t.sets[t.idx x 0]?).getD D.Set.zero = _; rw [show t.sets[t.idx x 0]? = some e1 from he1]; rfl
      have hw1 : t.way asid x 1 = e2.find asid x 1 := by show D.Set.find ((t.sets[t.idx x 1]?).getD D.Set.zero) asid x 1 = _; rw [show t.sets[t.idx x 1]? = some e2 from he2]; rfl
      have ha1 : t.at_ (t.idx x 1) = e2 := by show (t.sets[t.idx x 1]?).getD D.Set.zero = _; rw [show t.sets[t.idx x 1]? = some e2 from he2]; rfl
      have hw2 : t.way asid x 2 = e3.find asid x 2 := by show D.Set.find ((t.sets[t.idx x 2]?).getD D.Set.zero) asid x 2 = _; rw [show t.sets[t.idx x 2]? = some e3 from he3]; rfl
      have ha2 : t.at_ (t.idx x 2) = e3 := by show (t.sets[t.idx x 2]?).getD D.Set.zero = _; rw [show t.sets[t.idx x 2]? = some e3 from he3]; rfl
      have hh : t.hit asid x 2 = ⟨e3.w3, t.idx x 2, 3, true⟩ := by unfold D.Tlb.hit; rw [hw2, hg, ha2]; rfl
      have hf : t.find asid x = t.hit asid x 2 := by rw [D.Tlb.find, if_neg ko, if_neg (by rw [hw0]; omega), if_neg (by rw [hw1]; omega), if_pos (by rw [hw2]; omega)]
      rw [hf, hh]; rfl
    ·
     have A := A.rb 41 h4
     refine Xf A (XK (XN (XT (XR (Xb [0, 0] A H fun ac w A H => XD (XT (XO (XS (XR (Xb [0] A H fun ac w A H => XD (XT (XS (Xf A (XI (XX (XX (XE (XT (XS (XR (Xb [0, 1, 0, 0, 0] A H fun ac w A H => XD (XT (XW (Xr [1, 0, 0, 0] ((.tuple #[(D.Entry.enc (⟨false, 0, false, 0, 0, 0, (⟨false, false, false, false⟩ : D.Perm), false⟩ : D.Entry)), .int .i64 0, .int .i64 0, .bool false])) A H ?_))))))))))))))))))))))))
     have qh2 := of_decide_eq_false h2
     have qh3 := of_decide_eq_false h3
     have qh4 := of_decide_eq_false h4
     have hw0 : t.way asid x 0 = e1.find asid x 0 := by show D.Set.find ((t.sets[t.idx x 0]?).getD D.Set.zero) asid x 0 = _; rw [show t.sets[t.idx x 0]? = some e1 from he1]; rfl
     have ha0 : t.at_ (t.idx x 0) = e1 := by show (t.sets[t.idx x 0]?).getD D.Set.zero = _; rw [show t.sets[t.idx x 0]? = some e1 from he1]; rfl
     have hw1 : t.way asid x 1 = e2.find asid x 1 := by show D.Set.find ((t.sets[t.idx x 1]?).getD D.Set.zero) asid x 1 = _; rw [show t.sets[t.idx x 1]? = some e2 from he2]; rfl
     have ha1 : t.at_ (t.idx x 1) = e2 := by show (t.sets[t.idx x 1]?).getD D.Set.zero = _; rw [show t.sets[t.idx x 1]? = some e2 from he2]; rfl
     have hw2 : t.way asid x 2 = e3.find asid x 2 := by show D.Set.find ((t.sets[t.idx x 2]?).getD D.Set.zero) asid x 2 = _; rw [show t.sets[t.idx x 2]? = some e3 from he3]; rfl
     have ha2 : t.at_ (t.idx x 2) = e3 := by show (t.sets[t.idx x 2]?).getD D.Set.zero = _; rw [show t.sets[t.idx x 2]? = some e3 from he3]; rfl
     have hf : t.find asid x = D.Hit.none := by rw [D.Tlb.find, if_neg ko, if_neg (by rw [hw0]; omega), if_neg (by rw [hw1]; omega), if_neg (by rw [hw2]; omega)]
     rw [hf]; rfl
theorem tPut_calls (t : D.Tlb) (e : D.Entry) (v : Int)  {no : List Nat} (s1 : SX.Sl) (w0 : World) (hno : ∀ b ∈ no, b < w0.heap.size) (hs1 : (D.tlbF s1 t.sets).P w0 no) (hL : Ld w0) (ht : t.Ok) (hv : e.valid = true) (hl : e.level = 0 ∨ e.level = 1 ∨ e.level = 2) (h1 : e.vpn < 18446744073709551616) (h2 : e.ppn < 18446744073709551616) (h3 : e.asid < 18446744073709551616) : SX.Rets Tryz.prog 185 #[(D.Tlb.enc t s1), (D.Entry.enc e), .int .i64 v] w0 (fun r_ w => ∃ y1 : SX.Sl, r_ = (D.Tlb.enc (t.put e v) y1) ∧ (D.tlbF y1 ((t.put e v).sets)).P w no) := by
 refine SX.enterN (args := [(D.Tlb.enc t s1), (D.Entry.enc e), .int .i64 v]) (hno := hno) 43 Tryz.func185 rfl kr fun ac A H => ?_
 have H := H.known (D.tlbF s1 t.sets) hs1
 have htn := ht.n
 refine XS (XR (Xb [0, 0, 0] A H fun ac w A H => XD (XT (XS (XS (XR (Xb [0, 0, 0] A H fun ac w A H => ?_)))))))
 have A := A.re 12 (.int .i64 (((s1.n : Nat) : Int))) (.int .i64 (((t.sets.length : Nat) : Int))) kr (by rw [SX.SlAt.count D.Set.len kc (H.fact' 0 (D.tlbF s1 t.sets) kr)])
 refine Xb [0, 0] A H fun ac w A H => ?_
 refine Xs (((t.sets.length : Nat) : Int) == 0) (fun h1 => ?_) fun h1 => ?_
 ·
  have A := A.rb 14 h1
  have h1p : ((t.sets.length : Nat) : Int) = 0 := kp h1
  refine Xb [0, 0, 0, 0] A H fun ac w A H => XD (XT (Xt A (XS (XR (Xb [0, 2] A H fun ac w A H => XD (XT (XW (XU (Xr [2] ((D.Tlb.enc t s1)) A H ?_)))))))))
  refine ⟨s1, ?_, (by rw [D.Tlb.put, if_pos (by simp_all <;> omega)]; exact (H.out 0 (D.tlbF s1 t.sets) kr))⟩
  rw [D.Tlb.put, if_pos (by simp_all <;> omega)]
 ·
  have A := A.rb 14 h1
  have h1p : ¬ (((t.sets.length : Nat) : Int) = 0) := kp h1
  refine Xb [1] A H fun ac w A H => Xc A H (eMay_calls e w (hL.below H.below) (hv) (hl) ko ko ko) fun ac w A H => Xb [0, 0] A H fun ac w A H => XD (XT ?_)
  refine Xs (e.may) (fun h2 => ?_) fun h2 => ?_
  ·
   have A := A.re 18 (.bool (!e.may)) (.bool false) kr (by rw [h2]; rfl)
   refine Xf A (XK (XT (XS (XR (Xb [0, 0, 0] A H fun ac w A H => ?_)))))
   have A := A.re 22 (.int .i64 (((s1.n : Nat) : Int))) (.int .i64 (((t.sets.length : Nat) : Int))) kr (by rw [SX.SlAt.count D.Set.len kc (H.fact' 0 (D.tlbF s1 t.sets) kr)])
   refine Xb [0, 1, 0, 1] A H fun ac w A H => Xc A H (tIndex_calls t.sets.length e.vpn e.level w (hL.below H.below) ko ko ko (hl)) fun ac w A H => Xb [0] A H fun ac w A H => XD (XT (XS (SX.drawn 14 [0, 1] kr A H fun w H => SX.takes [0, 1] [(0, none), (1, some 0), (2, none)] A H kr kd kr kr kr (Or.inl kr) fun ac A => ?_)))
   obtain ⟨e1, he1⟩ := SX.get_of_lt (l := t.sets) (i := indexT t.sets.length e.vpn e.level) (D.indexT_lt ko)
   refine SX.takeG 3 [0, 1] A H kr kd (fun w HK => SX.run_idx (P := Tryz.prog) (HK.fact 0 (D.tlbF s1 t.sets) kr) (T := 31) (E := 279) (k := .i64) (i := indexT t.sets.length e.vpn e.level) Tryz.underlying31 kr (by rw [SX.SlAt.count D.Set.len kc (HK.fact 0 (D.tlbF s1 t.sets) kr)]; exact (List.getElem?_eq_some_iff.1 he1).1)) kr kr kr kr kr fun ac A => ?_
   refine SX.takeG 4 [0, 1] A H kr kd (fun w HK => SX.run_loadN (P := Tryz.prog) (T := 279) (b := s1.blk) (o := s1.off + (indexT t.sets.length e.vpn e.level) * 45) (D.Set.cells e1) kr kr (fun k hk => SX.SlAt.elem D.Set.len (HK.fact 0 (D.tlbF s1 t.sets) kr) he1 hk)) kr kr kr kr kr fun ac A => SX.takes [0, 1] [(5, some 1), (6, none)] A H kr kd kr kr kr (Or.inl kr) fun ac A => ?_
   let B0 := SX.bb H 0
   let B1 := SX.bb H 1
   let B2 := SX.bb H 2
   refine SX.joinD (fun ac w => ∃ B3 : Nat, SX.Agrees 43 ac [(3, .pointer (some ⟨B0, 0, none⟩)), (6, .pointer (some ⟨B2, 0, none⟩)), (7, .int .i64 (((indexT t.sets.length e.vpn e.level : Nat) : Int))), (8, .pointer (some ⟨B3, 0, none⟩)), (37, (D.Set.enc (e1.ins e v))), (38, .int .i64 ((e1.clean e).goes v))] ∧ SX.Own w0 w [(B0, .cells #[.slice s1.a s1.n s1.c] 33 (0, 0)), (B1, .cells (D.Entry.cs e) 270 (0, 0)), (B2, .cells #[(.slice none 0 0)] 33 (0, 0)), (B3, .cells (D.Set.cs (⟨(⟨false, 0, false, 0, 0, 0, (⟨false, false, false, false⟩ : D.Perm), false⟩ : D.Entry), (⟨false, 0, false, 0, 0, 0, (⟨false, false, false, false⟩ : D.Perm), false⟩ : D.Entry), (⟨false, 0, false, 0, 0, 0, (⟨false, false, false, false⟩ : D.Perm), false⟩ : D.Entry), (⟨false, 0, false, 0, 0, 0, (⟨false, false, false, false⟩ : D.Perm), false⟩ : D.Entry), 0⟩ : D.Set)) 279 (0, 0))] ⟨[(D.tlbF s1 t.sets)], (SX.roOf H).fb, (SX.roOf H).no⟩) 2 (SX.msk 14 4095) ?_ (fun hJ1 => ?_)
   · rintro ac w ⟨B3, A, H⟩
     refine SX.act 12 3 [0, 1] A H kr kr kr (Or.inl kr) fun ac w A H => SX.takes [0, 1] [(13, none)] A H kr kd kr kr kr (Or.inl kr) fun ac A => ?_
     refine SX.doneD kr ?_ _
     refine XT (XS (XR (Xb [0, 0, 3] A H fun ac w A H => SX.call A H (with_calls t (indexT t.sets.length e.vpn e.level) (e1.ins e v) s1 w H.nos_lt (H.fact' 0 (D.tlbF s1 t.sets) kr) (D.indexT_lt ko) (by first | assumption | omega)) kr kr ?_)))
     rintro _ ac w ⟨z2, rfl, hz2⟩ A H
     have H := H.learn (D.tlbF z2 ((t.with_ (indexT t.sets.length e.vpn e.level) (e1.ins e v)).sets)) hz2
     refine Xb [2] A H fun ac w A H => XD (XT (XW (Xr [2] ((D.Tlb.enc (t.with_ (indexT t.sets.length e.vpn e.level) (e1.ins e v)) z2)) A H ?_)))
     refine ⟨z2, ?_, (by rw [D.Tlb.put, if_neg (by simp_all <;> omega), D.Tlb.at_, he1]; exact (H.out 0 (D.tlbF z2 ((t.with_ (indexT t.sets.length e.vpn e.level) (e1.ins e v)).sets)) kr))⟩
     rw [D.Tlb.put, if_neg (by simp_all <;> omega), D.Tlb.at_, he1]; rfl
   refine SX.many 7 [11] kr kr (SX.allC_cons ?_ (SX.allC_cons ?_ SX.allC_nil))
   ·
    refine SX.callGD_op 7 [0, 1] A H (sPut_calls e1 e v w (hL.below H.below)) kr kr (Or.inl kr) fun ac w A H => SX.takes [0, 1] [(8, none), (9, none), (10, none)] A H kr kd kr kr kr (Or.inl kr) fun ac A => SX.act 11 0 [0, 1] A H kr kr kr (Or.inl kr) fun ac w A H => ?_
    exact SX.useD hJ1 kr kr ⟨SX.bb H 3, A.sub _ kr, (H.pick [0, 1, 2, 3] _ kc kr).ro_pick [0] _ kr⟩
   ·
    refine SX.act_op 11 0 [0, 1] A H kr (Or.inl kr) fun ac w A H => SX.callGD 7 [0, 1] A H (sPut_calls e1 e v w (hL.below H.below)) kr kr kr kr (Or.inl kr) fun ac w A H => SX.takes [0, 1] [(8, none), (9, none), (10, none)] A H kr kd kr kr kr (Or.inl kr) fun ac A => ?_
    exact SX.useD hJ1 kr kr ⟨SX.bb H 3, A.sub _ kr, (H.pick [0, 1, 2, 3] _ kc kr).ro_pick [0] _ kr⟩
  ·
   have A := A.re 18 (.bool (!e.may)) (.bool true) kr (by rw [h2]; rfl)
   refine Xt A (XS (XR (Xb [0, 2] A H fun ac w A H => XD (XT (XW (XU (Xr [2] ((D.Tlb.enc t s1)) A H ?_)))))))
   refine ⟨s1, ?_, (by rw [D.Tlb.put, if_pos (by simp_all <;> omega)]; exact (H.out 0 (D.tlbF s1 t.sets) kr))⟩
   rw [D.Tlb.put, if_pos (by simp_all <;> omega)]
end Go.Proofs.YtfkmcdkncmapmaaGreatDoor
