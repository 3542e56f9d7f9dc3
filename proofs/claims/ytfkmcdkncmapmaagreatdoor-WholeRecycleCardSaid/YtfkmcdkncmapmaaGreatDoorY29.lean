/- Walks of functions, written by the session's own program wip/sx/sxgen.py; Lean checks them. -/
import Derived.Test.YtfkmcdkncmapmaaGreatDoorY02
import Derived.Test.YtfkmcdkncmapmaaGreatDoorY28
import Derived.Test.YtfkmcdkncmapmaaGreatDoorProg
set_option linter.unusedVariables false
set_option linter.unusedSimpArgs false
set_option maxRecDepth 100000
set_option maxHeartbeats 2000000
namespace Go.Proofs.YtfkmcdkncmapmaaGreatDoor
open Go Go.RowKit
theorem Names_calls (f : D.Fence) (e : D.Entry)  (w0 : World) (hL : Ld w0) (hx : f.addr < 18446744073709551616) (hl : e.valid = true → e.level = 0 ∨ e.level = 1 ∨ e.level = 2) : SX.Gives Tryz.prog 195 #[(D.Fence.enc f), (D.Entry.enc e)] w0 (.bool (f.names e)) := by
 refine SX.enter (args := [(D.Fence.enc f), (D.Entry.enc e)]) 21 Tryz.func195 rfl kr fun ac A H => ?_
 obtain ⟨T4, f4, ab, ao, acap, acs, T5, f5, h4, h5, h6⟩ := hL.asks
 have H := H.fb_old h4
 have H := H.fb_old h5
 refine XS (XR (Xb [0, 0, 0] A H fun ac w A H => XD (XT (XS (XS (XR (Xb [1000, 0, 0] A H fun ac w A H => XD (XT (XB (wp_loop_rounds 3 (XO (XS (XR (Xb [0] A H fun ac w A H => XD (XT (XS (Xt A (XK (XT (XS (XB (XS (XR (Xb [0] A H fun ac w A H => SX.given A (SX.run_load1 (P := Tryz.prog) (w := w) (T := 308) (b := ab) (o := ao + 0) (v := .func (.func 263) #[] #[]) kr (SX.cell_of (H.hfb (ab, .cells acs T5 f5) (List.mem_of_getElem? (i := 1) kr)).1 h6.1)) kr kr fun ac A => Xb [0] A H fun ac w A H => XD (XT (XS (XR (Xb [0, 0, 1] A H fun ac w A H => Xc A H (fAddr_calls f e w (hL.below H.below) ko (hl)) fun ac w A H => Xb [0] A H fun ac w A H => XD (XT ?_)))))))))))))))))))))))))))))
 refine Xs (!f.hasAddr || (isN f.addr && e.covers f.addr)) (fun h1 => ?_) fun h1 => ?_
 ·
  have A := A.re 17 (.bool (!(!f.hasAddr || (isN f.addr && e.covers f.addr)))) (.bool false) kr (by rw [h1]; rfl)
  refine Xf A (XK (XN (XT (XR (Xb [0, 0] A H fun ac w A H => XD (XT (XO (XS (XR (Xb [0] A H fun ac w A H => XD (XT (XS (Xt A (XK (XT (XS (XB (XS (XR (Xb [0] A H fun ac w A H => SX.given A (SX.run_load1 (P := Tryz.prog) (w := w) (T := 308) (b := ab) (o := ao + 1) (v := .func (.func 265) #[] #[]) kr (SX.cell_of (H.hfb (ab, .cells acs T5 f5) (List.mem_of_getElem? (i := 1) kr)).1 h6.2)) kr kr fun ac A => Xb [0] A H fun ac w A H => XD (XT (XS (XR (Xb [0, 0, 1] A H fun ac w A H => Xc A H (fAsid2_calls f e w) fun ac w A H => Xb [0] A H fun ac w A H => XD (XT ?_)))))))))))))))))))))))))
  refine Xs (!f.hasAsid || (!e.global && decide (e.asid = f.asid))) (fun h2 => ?_) fun h2 => ?_
  ·
   have A := A.re 17 (.bool (!(!f.hasAsid || (!e.global && decide (e.asid = f.asid))))) (.bool false) kr (by rw [h2]; rfl)
   refine Xf A (XK (XN (XT (XR (Xb [0, 0] A H fun ac w A H => XD (XT (XO (XS (XR (Xb [0] A H fun ac w A H => XD (XT (XS (Xf A (XI (XX (XX (XE (XT (XS (XR (Xb [0, 1, 0] A H fun ac w A H => XD (XT (XW (Xr [0] (.bool e.valid) A H (congrArg Value.bool ?_)))))))))))))))))))))))))
   first | (simp [D.Fence.names, h1, h2]; done) | (rw [Bool.eq_iff_iff]; simp [D.Fence.names, h1, h2]; done) | (rw [Bool.eq_iff_iff]; simp [D.Fence.names, h1, h2]; omega)
  ·
   have A := A.re 17 (.bool (!(!f.hasAsid || (!e.global && decide (e.asid = f.asid))))) (.bool true) kr (by rw [h2]; rfl)
   refine Xt A (XS (XR (Xb [0] A H fun ac w A H => XD (XT (XW (XQ (XU (XU (XQ (XU (Xr [0] (.bool false) A H (congrArg Value.bool ?_))))))))))))
   first | (simp [D.Fence.names, h1, h2]; done) | (rw [Bool.eq_iff_iff]; simp [D.Fence.names, h1, h2]; done) | (rw [Bool.eq_iff_iff]; simp [D.Fence.names, h1, h2]; omega)
 ·
  have A := A.re 17 (.bool (!(!f.hasAddr || (isN f.addr && e.covers f.addr)))) (.bool true) kr (by rw [h1]; rfl)
  refine Xt A (XS (XR (Xb [0] A H fun ac w A H => XD (XT (XW (XQ (XU (XU (XQ (XU (Xr [0] (.bool false) A H (congrArg Value.bool ?_))))))))))))
  first | (simp [D.Fence.names, h1]; done) | (rw [Bool.eq_iff_iff]; simp [D.Fence.names, h1]; done) | (rw [Bool.eq_iff_iff]; simp [D.Fence.names, h1]; omega)
theorem Do_calls (t : D.Tlb) (f : D.Fence)  {no : List Nat} (s1 : SX.Sl) (w0 : World) (hno : ∀ b ∈ no, b < w0.heap.size) (hs1 : (D.tlbF s1 t.sets).P w0 no) (hL : Ld w0) (ht : t.Ok) (hx : f.addr < 18446744073709551616) : SX.Rets Tryz.prog 153 #[(D.Tlb.enc t s1), (D.Fence.enc f)] w0 (fun r_ w => ∃ y1 : SX.Sl, r_ = (D.Tlb.enc (t.do_ f) y1) ∧ (D.tlbF y1 ((t.do_ f).sets)).P w no) := by
 refine SX.enterN (args := [(D.Tlb.enc t s1), (D.Fence.enc f)]) (hno := hno) 40 Tryz.func153 rfl kr fun ac A H => ?_
 have H := H.known (D.tlbF s1 t.sets) hs1
 have htn := ht.n
 refine XS (XR (Xb [0, 0, 0] A H fun ac w A H => XD (XT (XS (XS (XR (Xb [0, 0, 0] A H fun ac w A H => ?_)))))))
 have A := A.re 11 (.int .i64 (((s1.n : Nat) : Int))) (.int .i64 (((t.sets.length : Nat) : Int))) kr (by rw [SX.SlAt.count D.Set.len kc (H.fact' 0 (D.tlbF s1 t.sets) kr)])
 refine Xb [0] A H fun ac w A H => XD (XT (XB ?_))
 have H := H.learn (D.tlbF s1 (D.fen f t.sets 0)) (by rw [D.fen_zero]; exact (H.fact' 0 (D.tlbF s1 t.sets) kr))
 refine SX.loopG (σ := Nat) (fun g ac w => match g with | (i) => ∃ B0 B1 B2 : Nat, ∃ zc : SX.Sl, (i ≤ t.sets.length) ∧ SX.Agrees 40 ac [(0, (D.Tlb.enc t s1)), (1, (D.Fence.enc f)), (2, .pointer (some ⟨B0, 0, none⟩)), (3, .pointer (some ⟨B1, 0, none⟩)), (4, .pointer (some ⟨B2, 0, none⟩)), (10, .slice s1.a s1.n s1.c), (11, .int .i64 (((t.sets.length : Nat) : Int))), (12, .int .i64 (((i : Nat) : Int)))] ∧ SX.Own w0 w [(B0, .cells #[.slice zc.a zc.n zc.c] 33 (0, 0)), (B1, .cells (D.Fence.cs f) 114 (0, 0)), (B2, .cells #[(.slice none 0 0)] 33 (0, 0))] ⟨[(D.tlbF zc (D.fen f t.sets i)), (D.tlbF s1 t.sets)], (SX.roOf H).fb, (SX.roOf H).no⟩) (fun g => match g with | (i) => t.sets.length - i) (0) ?_ ?_
 · exact ⟨SX.bb H 0, SX.bb H 1, SX.bb H 2, s1, (Nat.zero_le _), A.sub _ kr, (H.pick [0, 1, 2] _ kc kr).ro_pick [0, 0] _ kr⟩
 rintro i ac w ⟨B0, B1, B2, zc, hI, A, H⟩
 refine XS (XR (Xb [0] A H fun ac w A H => XD (XT (XS ?_))))
 refine Xs (decide (((i : Nat) : Int) < ((t.sets.length : Nat) : Int))) (fun h1 => ?_) fun h1 => ?_
 ·
  have A := A.rb 13 h1
  have h1p : ((i : Nat) : Int) < ((t.sets.length : Nat) : Int) := kp h1
  refine Xt A (XK (XT (XS (XB (XS (XR (Xb [0] A H fun ac w A H => ?_)))))))
  obtain ⟨e1, he1⟩ := SX.get_of_lt (l := t.sets) (i := i) ko
  refine SX.given A (SX.run_idx (P := Tryz.prog) (H.fact' 1 (D.tlbF s1 t.sets) kr) (T := 31) (E := 279) (k := .i64) (i := i) Tryz.underlying31 kr (by rw [SX.SlAt.count D.Set.len kc (H.fact' 1 (D.tlbF s1 t.sets) kr)]; exact (List.getElem?_eq_some_iff.1 he1).1)) kr kr fun ac A => ?_
  refine SX.given A (SX.run_loadN (P := Tryz.prog) (T := 279) (b := s1.blk) (o := s1.off + i * 45) (D.Set.cells e1) kr kr (fun q_ hq_ => SX.SlAt.elem D.Set.len (H.fact' 1 (D.tlbF s1 t.sets) kr) he1 hq_)) kr kr fun ac A => Xb [0, 0, 3] A H fun ac w A H => XD (XT (XS (XR (Xb [0, 3, 0] A H fun ac w A H => XD (XT (XB (wp_loop_rounds 5 (XO (XS (XR (Xb [0] A H fun ac w A H => XD (XT (XS (Xt A (XK (XT (XS (XB (XS (XR (Xb [0, 0, 0, 0, 4] A H fun ac w A H => XD (XT (XS (XR (Xb [1, 4] A H fun ac w A H => Xc A H (Names_calls f e1.w0 w (hL.below H.below) ko (by first | exact (ht.lv _ (List.mem_of_getElem? he1)).l0 | exact (ht.lv _ (List.mem_of_getElem? he1)).l1 | exact (ht.lv _ (List.mem_of_getElem? he1)).l2 | exact (ht.lv _ (List.mem_of_getElem? he1)).l3)) fun ac w A H => XD (XT ?_))))))))))))))))))))))))))
  refine SX.cut (fun ac w => ∃ B0 B1 B2 B3 B4 : Nat, ∃ zm1 : SX.Sl, SX.Agrees 40 ac [(0, (D.Tlb.enc t s1)), (1, (D.Fence.enc f)), (2, .pointer (some ⟨B0, 0, none⟩)), (3, .pointer (some ⟨B1, 0, none⟩)), (4, .pointer (some ⟨B2, 0, none⟩)), (5, .int .i64 (((i : Nat) : Int))), (10, .slice s1.a s1.n s1.c), (11, .int .i64 (((t.sets.length : Nat) : Int))), (12, .int .i64 (((i : Nat) : Int))), (18, (.agg #[.bool e1.w0.valid, .int .u64 (((e1.w0.asid : Nat) : Int)), .bool e1.w0.global, .int .i64 (e1.w0.level), .int .u64 (((e1.w0.vpn : Nat) : Int)), .int .u64 (((e1.w0.ppn : Nat) : Int)), .bool e1.w0.perm.r, .bool e1.w0.perm.w, .bool e1.w0.perm.x, .bool e1.w0.perm.u, .bool e1.w0.dirty, .bool e1.w1.valid, .int .u64 (((e1.w1.asid : Nat) : Int)), .bool e1.w1.global, .int .i64 (e1.w1.level), .int .u64 (((e1.w1.vpn : Nat) : Int)), .int .u64 (((e1.w1.ppn : Nat) : Int)), .bool e1.w1.perm.r, .bool e1.w1.perm.w, .bool e1.w1.perm.x, .bool e1.w1.perm.u, .bool e1.w1.dirty, .bool e1.w2.valid, .int .u64 (((e1.w2.asid : Nat) : Int)), .bool e1.w2.global, .int .i64 (e1.w2.level), .int .u64 (((e1.w2.vpn : Nat) : Int)), .int .u64 (((e1.w2.ppn : Nat) : Int)), .bool e1.w2.perm.r, .bool e1.w2.perm.w, .bool e1.w2.perm.x, .bool e1.w2.perm.u, .bool e1.w2.dirty, .bool e1.w3.valid, .int .u64 (((e1.w3.asid : Nat) : Int)), .bool e1.w3.global, .int .i64 (e1.w3.level), .int .u64 (((e1.w3.vpn : Nat) : Int)), .int .u64 (((e1.w3.ppn : Nat) : Int)), .bool e1.w3.perm.r, .bool e1.w3.perm.w, .bool e1.w3.perm.x, .bool e1.w3.perm.u, .bool e1.w3.dirty])), (19, .int .i64 0)] ∧ SX.Own w0 w [(B0, .cells #[.slice zm1.a zm1.n zm1.c] 33 (0, 0)), (B1, .cells (D.Fence.cs f) 114 (0, 0)), (B2, .cells #[(.slice none 0 0)] 33 (0, 0)), (B3, .cells (D.Set.cs e1) 279 (0, 0)), (B4, .cells (D.Entry.cs e1.w0) 270 (0, 0))] ⟨[(D.tlbF zm1 ((D.fen f t.sets i).set i (D.Set.dropN f e1 e1 0))), (D.tlbF s1 t.sets)], (SX.roOf H).fb, (SX.roOf H).no⟩) ?_ ?_
  ·
   refine Xs (f.names e1.w0) (fun h2 => ?_) fun h2 => ?_
   ·
    have A := A.rb 25 h2
    refine Xt A (XR (Xb [0, 0, 0] A H fun ac w A H => ?_))
    refine SX.call A H (tDrop_calls (⟨(D.fen f t.sets i)⟩ : D.Tlb) i 0 zc w H.nos_lt (H.fact' 0 (D.tlbF zc (D.fen f t.sets i)) kr) (by simp only [List.length_set, D.fen_len]; exact (List.getElem?_eq_some_iff.1 he1).1) (by simp only [List.length_set, D.fen_len]; omega) ko) kr kr ?_
    rintro _ ac w ⟨z2, rfl, hz2⟩ A H
    have H := H.learn (D.tlbF z2 (((⟨(D.fen f t.sets i)⟩ : D.Tlb).drop i 0).sets)) hz2
    refine Xb [0, 0, 0, 0] A H fun ac w A H => XD ?_
    have hil : i < (D.fen f t.sets i).length := by rw [D.fen_len]; exact (List.getElem?_eq_some_iff.1 he1).1
    have hd := D.drop_set (l := (D.fen f t.sets i)) (c := e1) hil 0
    rw [D.set_same (D.fen_get f he1)] at hd
    have hn : (D.Set.dropN f e1 e1 0) = D.Set.put e1 0 D.Entry.zero := D.dropN_t0 h2
    have H := H.learnEq 0 (D.tlbF z2 (((⟨(D.fen f t.sets i)⟩ : D.Tlb).drop i 0).sets)) (D.tlbF z2 ((D.fen f t.sets i).set i (D.Set.dropN f e1 e1 0))) kr (by rw [hn, ← hd])
    exact ⟨SX.bb H 0, SX.bb H 1, SX.bb H 2, SX.bb H 3, SX.bb H 4, z2, A.sub _ kr, (H.pick [0, 1, 2, 3, 4] _ kc kr).ro_pick [0, 3] _ kr⟩
   ·
    have A := A.rb 25 h2
    refine Xf A (XK ?_)
    have hn : (D.Set.dropN f e1 e1 0) = e1 := D.dropN_f0 h2
    have H := H.learnEq 0 (D.tlbF zc (D.fen f t.sets i)) (D.tlbF zc ((D.fen f t.sets i).set i (D.Set.dropN f e1 e1 0))) kr (by rw [hn, D.set_same (D.fen_get f he1)])
    exact ⟨SX.bb H 0, SX.bb H 1, SX.bb H 2, SX.bb H 3, SX.bb H 4, zc, A.sub _ kr, (H.pick [0, 1, 2, 3, 4] _ kc kr).ro_pick [0, 2] _ kr⟩
  rintro ac w ⟨B0, B1, B2, B3, B4, zm1, A, H⟩
  refine XN (XT (XR (Xb [0, 0] A H fun ac w A H => XD (XT (XO (XS (XR (Xb [0] A H fun ac w A H => XD (XT (XS (Xt A (XK (XT (XS (XB (XS (XR (Xb [0, 0, 0, 0, 5] A H fun ac w A H => XD (XT (XS (XR (Xb [1, 5] A H fun ac w A H => Xc A H (Names_calls f e1.w1 w (hL.below H.below) ko (by first | exact (ht.lv _ (List.mem_of_getElem? he1)).l0 | exact (ht.lv _ (List.mem_of_getElem? he1)).l1 | exact (ht.lv _ (List.mem_of_getElem? he1)).l2 | exact (ht.lv _ (List.mem_of_getElem? he1)).l3)) fun ac w A H => XD (XT ?_)))))))))))))))))))))))
  refine SX.cut (fun ac w => ∃ B0 B1 B2 B3 B4 B5 : Nat, ∃ zm2 : SX.Sl, SX.Agrees 40 ac [(0, (D.Tlb.enc t s1)), (1, (D.Fence.enc f)), (2, .pointer (some ⟨B0, 0, none⟩)), (3, .pointer (some ⟨B1, 0, none⟩)), (4, .pointer (some ⟨B2, 0, none⟩)), (5, .int .i64 (((i : Nat) : Int))), (10, .slice s1.a s1.n s1.c), (11, .int .i64 (((t.sets.length : Nat) : Int))), (12, .int .i64 (((i : Nat) : Int))), (18, (.agg #[.bool e1.w0.valid, .int .u64 (((e1.w0.asid : Nat) : Int)), .bool e1.w0.global, .int .i64 (e1.w0.level), .int .u64 (((e1.w0.vpn : Nat) : Int)), .int .u64 (((e1.w0.ppn : Nat) : Int)), .bool e1.w0.perm.r, .bool e1.w0.perm.w, .bool e1.w0.perm.x, .bool e1.w0.perm.u, .bool e1.w0.dirty, .bool e1.w1.valid, .int .u64 (((e1.w1.asid : Nat) : Int)), .bool e1.w1.global, .int .i64 (e1.w1.level), .int .u64 (((e1.w1.vpn : Nat) : Int)), .int .u64 (((e1.w1.ppn : Nat) : Int)), .bool e1.w1.perm.r, .bool e1.w1.perm.w, .bool e1.w1.perm.x, .bool e1.w1.perm.u, .bool e1.w1.dirty, .bool e1.w2.valid, .int .u64 (((e1.w2.asid : Nat) : Int)), .bool e1.w2.global, .int .i64 (e1.w2.level), .int .u64 (((e1.w2.vpn : Nat) : Int)), .int .u64 (((e1.w2.ppn : Nat) : Int)), .bool e1.w2.perm.r, .bool e1.w2.perm.w, .bool e1.w2.perm.x, .bool e1.w2.perm.u, .bool e1.w2.dirty, .bool e1.w3.valid, .int .u64 (((e1.w3.asid : Nat) : Int)), .bool e1.w3.global, .int .i64 (e1.w3.level), .int .u64 (((e1.w3.vpn : Nat) : Int)), .int .u64 (((e1.w3.ppn : Nat) : Int)), .bool e1.w3.perm.r, .bool e1.w3.perm.w, .bool e1.w3.perm.x, .bool e1.w3.perm.u, .bool e1.w3.dirty])), (19, .int .i64 1)] ∧ SX.Own w0 w [(B0, .cells #[.slice zm2.a zm2.n zm2.c] 33 (0, 0)), (B1, .cells (D.Fence.cs f) 114 (0, 0)), (B2, .cells #[(.slice none 0 0)] 33 (0, 0)), (B3, .cells (D.Set.cs e1) 279 (0, 0)), (B4, .cells (D.Entry.cs e1.w0) 270 (0, 0)), (B5, .cells (D.Entry.cs e1.w1) 270 (0, 0))] ⟨[(D.tlbF zm2 ((D.fen f t.sets i).set i (D.Set.dropN f e1 (D.Set.dropN f e1 e1 0) 1))), (D.tlbF s1 t.sets)], (SX.roOf H).fb, (SX.roOf H).no⟩) ?_ ?_
  ·
   refine Xs (f.names e1.w1) (fun h3 => ?_) fun h3 => ?_
   ·
    have A := A.rb 25 h3
    refine Xt A (XR (Xb [0, 0, 0] A H fun ac w A H => ?_))
    refine SX.call A H (tDrop_calls (⟨((D.fen f t.sets i).set i (D.Set.dropN f e1 e1 0))⟩ : D.Tlb) i 1 zm1 w H.nos_lt (H.fact' 0 (D.tlbF zm1 ((D.fen f t.sets i).set i (D.Set.dropN f e1 e1 0))) kr) (by simp only [List.length_set, D.fen_len]; exact (List.getElem?_eq_some_iff.1 he1).1) (by simp only [List.length_set, D.fen_len]; omega) ko) kr kr ?_
    rintro _ ac w ⟨z3, rfl, hz3⟩ A H
    have H := H.learn (D.tlbF z3 (((⟨((D.fen f t.sets i).set i (D.Set.dropN f e1 e1 0))⟩ : D.Tlb).drop i 1).sets)) hz3
    refine Xb [0, 0, 0, 0] A H fun ac w A H => XD ?_
    have hil : i < (D.fen f t.sets i).length := by rw [D.fen_len]; exact (List.getElem?_eq_some_iff.1 he1).1
    have hd := D.drop_set (l := (D.fen f t.sets i)) (c := (D.Set.dropN f e1 e1 0)) hil 1
    have hn : (D.Set.dropN f e1 (D.Set.dropN f e1 e1 0) 1) = D.Set.put (D.Set.dropN f e1 e1 0) 1 D.Entry.zero := D.dropN_t1 h3
    have H := H.learnEq 0 (D.tlbF z3 (((⟨((D.fen f t.sets i).set i (D.Set.dropN f e1 e1 0))⟩ : D.Tlb).drop i 1).sets)) (D.tlbF z3 ((D.fen f t.sets i).set i (D.Set.dropN f e1 (D.Set.dropN f e1 e1 0) 1))) kr (by rw [hn, ← hd])
    exact ⟨SX.bb H 0, SX.bb H 1, SX.bb H 2, SX.bb H 3, SX.bb H 4, SX.bb H 5, z3, A.sub _ kr, (H.pick [0, 1, 2, 3, 4, 5] _ kc kr).ro_pick [0, 3] _ kr⟩
   ·
    have A := A.rb 25 h3
    refine Xf A (XK ?_)
    have hn : (D.Set.dropN f e1 (D.Set.dropN f e1 e1 0) 1) = (D.Set.dropN f e1 e1 0) := D.dropN_f1 h3
    have H := H.learnEq 0 (D.tlbF zm1 ((D.fen f t.sets i).set i (D.Set.dropN f e1 e1 0))) (D.tlbF zm1 ((D.fen f t.sets i).set i (D.Set.dropN f e1 (D.Set.dropN f e1 e1 0) 1))) kr (by rw [hn])
    exact ⟨SX.bb H 0, SX.bb H 1, SX.bb H 2, SX.bb H 3, SX.bb H 4, SX.bb H 5, zm1, A.sub _ kr, (H.pick [0, 1, 2, 3, 4, 5] _ kc kr).ro_pick [0, 2] _ kr⟩
  rintro ac w ⟨B0, B1, B2, B3, B4, B5, zm2, A, H⟩
  refine XN (XT (XR (Xb [0, 0] A H fun ac w A H => XD (XT (XO (XS (XR (Xb [0] A H fun ac w A H => XD (XT (XS (Xt A (XK (XT (XS (XB (XS (XR (Xb [0, 0, 0, 0, 6] A H fun ac w A H => XD (XT (XS (XR (Xb [1, 6] A H fun ac w A H => Xc A H (Names_calls f e1.w2 w (hL.below H.below) ko (by first | exact (ht.lv _ (List.mem_of_getElem? he1)).l0 | exact (ht.lv _ (List.mem_of_getElem? he1)).l1 | exact (ht.lv _ (List.mem_of_getElem? he1)).l2 | exact (ht.lv _ (List.mem_of_getElem? he1)).l3)) fun ac w A H => XD (XT ?_)))))))))))))))))))))))
  refine SX.cut (fun ac w => ∃ B0 B1 B2 B3 B4 B5 B6 : Nat, ∃ zm3 : SX.Sl, SX.Agrees 40 ac [(0, (D.Tlb.enc t s1)), (1, (D.Fence.enc f)), (2, .pointer (some ⟨B0, 0, none⟩)), (3, .pointer (some ⟨B1, 0, none⟩)), (4, .pointer (some ⟨B2, 0, none⟩)), (5, .int .i64 (((i : Nat) : Int))), (10, .slice s1.a s1.n s1.c), (11, .int .i64 (((t.sets.length : Nat) : Int))), (12, .int .i64 (((i : Nat) : Int))), (18, (.agg #[.bool e1.w0.valid, .int .u64 (((e1.w0.asid : Nat) : Int)), .bool e1.w0.global, .int .i64 (e1.w0.level), .int .u64 (((e1.w0.vpn : Nat) : Int)), .int .u64 (((e1.w0.ppn : Nat) : Int)), .bool e1.w0.perm.r, .bool e1.w0.perm.w, .bool e1.w0.perm.x, .bool e1.w0.perm.u, .bool e1.w0.dirty, .bool e1.w1.valid, .int .u64 (((e1.w1.asid : Nat) : Int)), .bool e1.w1.global, .int .i64 (e1.w1.level), .int .u64 (((e1.w1.vpn : Nat) : Int)), .int .u64 (((e1.w1.ppn : Nat) : Int)), .bool e1.w1.perm.r, .bool e1.w1.perm.w, .bool e1.w1.perm.x, .bool e1.w1.perm.u, .bool e1.w1.dirty, .bool e1.w2.valid, .int .u64 (((e1.w2.asid : Nat) : Int)), .bool e1.w2.global, .int .i64 (e1.w2.level), .int .u64 (((e1.w2.vpn : Nat) : Int)), .int .u64 (((e1.w2.ppn : Nat) : Int)), .bool e1.w2.perm.r, .bool e1.w2.perm.w, .bool e1.w2.perm.x, .bool e1.w2.perm.u, .bool e1.w2.dirty, .bool e1.w3.valid, .int .u64 (((e1.w3.asid : Nat) : Int)), .bool e1.w3.global, .int .i64 (e1.w3.level), .int .u64 (((e1.w3.vpn : Nat) : Int)), .int .u64 (((e1.w3.ppn : Nat) : Int)), .bool e1.w3.perm.r, .bool e1.w3.perm.w, .bool e1.w3.perm.x, .bool e1.w3.perm.u, .bool e1.w3.dirty])), (19, .int .i64 2)] ∧ SX.Own w0 w [(B0, .cells #[.slice zm3.a zm3.n zm3.c] 33 (0, 0)), (B1, .cells (D.Fence.cs f) 114 (0, 0)), (B2, .cells #[(.slice none 0 0)] 33 (0, 0)), (B3, .cells (D.Set.cs e1) 279 (0, 0)), (B4, .cells (D.Entry.cs e1.w0) 270 (0, 0)), (B5, .cells (D.Entry.cs e1.w1) 270 (0, 0)), (B6, .cells (D.Entry.cs e1.w2) 270 (0, 0))] ⟨[(D.tlbF zm3 ((D.fen f t.sets i).set i (D.Set.dropN f e1 (D.Set.dropN f e1 (D.Set.dropN f e1 e1 0) 1) 2))), (D.tlbF s1 t.sets)], (SX.roOf H).fb, (SX.roOf H).no⟩) ?_ ?_
  ·
   refine Xs (f.names e1.w2) (fun h4 => ?_) fun h4 => ?_
   ·
    have A := A.rb 25 h4
    refine Xt A (XR (Xb [0, 0, 0] A H fun ac w A H => ?_))
    refine SX.call A H (tDrop_calls (⟨((D.fen f t.sets i).set i (D.Set.dropN f e1 (D.Set.dropN f e1 e1 0) 1))⟩ : D.Tlb) i 2 zm2 w H.nos_lt (H.fact' 0 (D.tlbF zm2 ((D.fen f t.sets i).set i (D.Set.dropN f e1 (D.Set.dropN f e1 e1 0) 1))) kr) (by simp only [List.length_set, D.fen_len]; exact (List.getElem?_eq_some_iff.1 he1).1) (by simp only [List.length_set, D.fen_len]; omega) ko) kr kr ?_
    rintro _ ac w ⟨z4, rfl, hz4⟩ A H
    have H := H.learn (D.tlbF z4 (((⟨((D.fen f t.sets i).set i (D.Set.dropN f e1 (D.Set.dropN f e1 e1 0) 1))⟩ : D.Tlb).drop i 2).sets)) hz4
    refine Xb [0, 0, 0, 0] A H fun ac w A H => XD ?_
    have hil : i < (D.fen f t.sets i).length := by rw [D.fen_len]; exact (List.getElem?_eq_some_iff.1 he1).1
    have hd := D.drop_set (l := (D.fen f t.sets i)) (c := (D.Set.dropN f e1 (D.Set.dropN f e1 e1 0) 1)) hil 2
    have hn : (D.Set.dropN f e1 (D.Set.dropN f e1 (D.Set.dropN f e1 e1 0) 1) 2) = D.Set.put (D.Set.dropN f e1 (D.Set.dropN f e1 e1 0) 1) 2 D.Entry.zero := D.dropN_t2 h4
    have H := H.learnEq 0 (D.tlbF z4 (((⟨((D.fen f t.sets i).set i (D.Set.dropN f e1 (D.Set.dropN f e1 e1 0) 1))⟩ : D.Tlb).drop i 2).sets)) (D.tlbF z4 ((D.fen f t.sets i).set i (D.Set.dropN f e1 (D.Set.dropN f e1 (D.Set.dropN f e1 e1 0) 1) 2))) kr (by rw [hn, ← hd])
    exact ⟨SX.bb H 0, SX.bb H 1, SX.bb H 2, SX.bb H 3, SX.bb H 4, SX.bb H 5, SX.bb H 6, z4, A.sub _ kr, (H.pick [0, 1, 2, 3, 4, 5, 6] _ kc kr).ro_pick [0, 3] _ kr⟩
   ·
    have A := A.rb 25 h4
    refine Xf A (XK ?_)
    have hn : (D.Set.dropN f e1 (D.Set.dropN f e1 (D.Set.dropN f e1 e1 0) 1) 2) = (D.Set.dropN f e1 (D.Set.dropN f e1 e1 0) 1) := D.dropN_f2 h4
    have H := H.learnEq 0 (D.tlbF zm2 ((D.fen f t.sets i).set i (D.Set.dropN f e1 (D.Set.dropN f e1 e1 0) 1))) (D.tlbF zm2 ((D.fen f t.sets i).set i (D.Set.dropN f e1 (D.Set.dropN f e1 (D.Set.dropN f e1 e1 0) 1) 2))) kr (by rw [hn])
    exact ⟨SX.bb H 0, SX.bb H 1, SX.bb H 2, SX.bb H 3, SX.bb H 4, SX.bb H 5, SX.bb H 6, zm2, A.sub _ kr, (H.pick [0, 1, 2, 3, 4, 5, 6] _ kc kr).ro_pick [0, 2] _ kr⟩
  rintro ac w ⟨B0, B1, B2, B3, B4, B5, B6, zm3, A, H⟩
  refine XN (XT (XR (Xb [0, 0] A H fun ac w A H => XD (XT (XO (XS (XR (Xb [0] A H fun ac w A H => XD (XT (XS (Xt A (XK (XT (XS (XB (XS (XR (Xb [0, 0, 0, 0, 7] A H fun ac w A H => XD (XT (XS (XR (Xb [1, 7] A H fun ac w A H => Xc A H (Names_calls f e1.w3 w (hL.below H.below) ko (by first | exact (ht.lv _ (List.mem_of_getElem? he1)).l0 | exact (ht.lv _ (List.mem_of_getElem? he1)).l1 | exact (ht.lv _ (List.mem_of_getElem? he1)).l2 | exact (ht.lv _ (List.mem_of_getElem? he1)).l3)) fun ac w A H => XD (XT ?_)))))))))))))))))))))))
  refine SX.cut (fun ac w => ∃ B0 B1 B2 B3 B4 B5 B6 B7 : Nat, ∃ zm4 : SX.Sl, SX.Agrees 40 ac [(0, (D.Tlb.enc t s1)), (1, (D.Fence.enc f)), (2, .pointer (some ⟨B0, 0, none⟩)), (3, .pointer (some ⟨B1, 0, none⟩)), (4, .pointer (some ⟨B2, 0, none⟩)), (5, .int .i64 (((i : Nat) : Int))), (10, .slice s1.a s1.n s1.c), (11, .int .i64 (((t.sets.length : Nat) : Int))), (12, .int .i64 (((i : Nat) : Int))), (18, (.agg #[.bool e1.w0.valid, .int .u64 (((e1.w0.asid : Nat) : Int)), .bool e1.w0.global, .int .i64 (e1.w0.level), .int .u64 (((e1.w0.vpn : Nat) : Int)), .int .u64 (((e1.w0.ppn : Nat) : Int)), .bool e1.w0.perm.r, .bool e1.w0.perm.w, .bool e1.w0.perm.x, .bool e1.w0.perm.u, .bool e1.w0.dirty, .bool e1.w1.valid, .int .u64 (((e1.w1.asid : Nat) : Int)), .bool e1.w1.global, .int .i64 (e1.w1.level), .int .u64 (((e1.w1.vpn : Nat) : Int)), .int .u64 (((e1.w1.ppn : Nat) : Int)), .bool e1.w1.perm.r, .bool e1.w1.perm.w, .bool e1.w1.perm.x, .bool e1.w1.perm.u, .bool e1.w1.dirty, .bool e1.w2.valid, .int .u64 (((e1.w2.asid : Nat) : Int)), .bool e1.w2.global, .int .i64 (e1.w2.level), .int .u64 (((e1.w2.vpn : Nat) : Int)), .int .u64 (((e1.w2.ppn : Nat) : Int)), .bool e1.w2.perm.r, .bool e1.w2.perm.w, .bool e1.w2.perm.x, .bool e1.w2.perm.u, .bool e1.w2.dirty, .bool e1.w3.valid, .int .u64 (((e1.w3.asid : Nat) : Int)), .bool e1.w3.global, .int .i64 (e1.w3.level), .int .u64 (((e1.w3.vpn : Nat) : Int)), .int .u64 (((e1.w3.ppn : Nat) : Int)), .bool e1.w3.perm.r, .bool e1.w3.perm.w, .bool e1.w3.perm.x, .bool e1.w3.perm.u, .bool e1.w3.dirty])), (19, .int .i64 3)] ∧ SX.Own w0 w [(B0, .cells #[.slice zm4.a zm4.n zm4.c] 33 (0, 0)), (B1, .cells (D.Fence.cs f) 114 (0, 0)), (B2, .cells #[(.slice none 0 0)] 33 (0, 0)), (B3, .cells (D.Set.cs e1) 279 (0, 0)), (B4, .cells (D.Entry.cs e1.w0) 270 (0, 0)), (B5, .cells (D.Entry.cs e1.w1) 270 (0, 0)), (B6, .cells (D.Entry.cs e1.w2) 270 (0, 0)), (B7, .cells (D.Entry.cs e1.w3) 270 (0, 0))] ⟨[(D.tlbF zm4 ((D.fen f t.sets i).set i (D.Set.dropN f e1 (D.Set.dropN f e1 (D.Set.dropN f e1 (D.Set.dropN f e1 e1 0) 1) 2) 3))), (D.tlbF s1 t.sets)], (SX.roOf H).fb, (SX.roOf H).no⟩) ?_ ?_
  ·
   refine Xs (f.names e1.w3) (fun h5 => ?_) fun h5 => ?_
   ·
    have A := A.rb 25 h5
    refine Xt A (XR (Xb [0, 0, 0] A H fun ac w A H => ?_))
    refine SX.call A H (tDrop_calls (⟨((D.fen f t.sets i).set i (D.Set.dropN f e1 (D.Set.dropN f e1 (D.Set.dropN f e1 e1 0) 1) 2))⟩ : D.Tlb) i 3 zm3 w H.nos_lt (H.fact' 0 (D.tlbF zm3 ((D.fen f t.sets i).set i (D.Set.dropN f e1 (D.Set.dropN f e1 (D.Set.dropN f e1 e1 0) 1) 2))) kr) (by simp only [List.length_set, D.fen_len]; exact (List.getElem?_eq_some_iff.1 he1).1) (by simp only [List.length_set, D.fen_len]; omega) ko) kr kr ?_
    rintro _ ac w ⟨z5, rfl, hz5⟩ A H
    have H := H.learn (D.tlbF z5 (((⟨((D.fen f t.sets i).set i (D.Set.dropN f e1 (D.Set.dropN f e1 (D.Set.dropN f e1 e1 0) 1) 2))⟩ : D.Tlb).drop i 3).sets)) hz5
    refine Xb [0, 0, 0, 0] A H fun ac w A H => XD ?_
    have hil : i < (D.fen f t.sets i).length := by rw [D.fen_len]; exact (List.getElem?_eq_some_iff.1 he1).1
    have hd := D.drop_set (l := (D.fen f t.sets i)) (c := (D.Set.dropN f e1 (D.Set.dropN f e1 (D.Set.dropN f e1 e1 0) 1) 2)) hil 3
    have hn : (D.Set.dropN f e1 (D.Set.dropN f e1 (D.Set.dropN f e1 (D.Set.dropN f e1 e1 0) 1) 2) 3) = D.Set.put (D.Set.dropN f e1 (D.Set.dropN f e1 (D.Set.dropN f e1 e1 0) 1) 2) 3 D.Entry.zero := D.dropN_t3 h5
    have H := H.learnEq 0 (D.tlbF z5 (((⟨((D.fen f t.sets i).set i (D.Set.dropN f e1 (D.Set.dropN f e1 (D.Set.dropN f e1 e1 0) 1) 2))⟩ : D.Tlb).drop i 3).sets)) (D.tlbF z5 ((D.fen f t.sets i).set i (D.Set.dropN f e1 (D.Set.dropN f e1 (D.Set.dropN f e1 (D.Set.dropN f e1 e1 0) 1) 2) 3))) kr (by rw [hn, ← hd])
    exact ⟨SX.bb H 0, SX.bb H 1, SX.bb H 2, SX.bb H 3, SX.bb H 4, SX.bb H 5, SX.bb H 6, SX.bb H 7, z5, A.sub _ kr, (H.pick [0, 1, 2, 3, 4, 5, 6, 7] _ kc kr).ro_pick [0, 3] _ kr⟩
   ·
    have A := A.rb 25 h5
    refine Xf A (XK ?_)
    have hn : (D.Set.dropN f e1 (D.Set.dropN f e1 (D.Set.dropN f e1 (D.Set.dropN f e1 e1 0) 1) 2) 3) = (D.Set.dropN f e1 (D.Set.dropN f e1 (D.Set.dropN f e1 e1 0) 1) 2) := D.dropN_f3 h5
    have H := H.learnEq 0 (D.tlbF zm3 ((D.fen f t.sets i).set i (D.Set.dropN f e1 (D.Set.dropN f e1 (D.Set.dropN f e1 e1 0) 1) 2))) (D.tlbF zm3 ((D.fen f t.sets i).set i (D.Set.dropN f e1 (D.Set.dropN f e1 (D.Set.dropN f e1 (D.Set.dropN f e1 e1 0) 1) 2) 3))) kr (by rw [hn])
    exact ⟨SX.bb H 0, SX.bb H 1, SX.bb H 2, SX.bb H 3, SX.bb H 4, SX.bb H 5, SX.bb H 6, SX.bb H 7, zm3, A.sub _ kr, (H.pick [0, 1, 2, 3, 4, 5, 6, 7] _ kc kr).ro_pick [0, 2] _ kr⟩
  rintro ac w ⟨B0, B1, B2, B3, B4, B5, B6, B7, zm4, A, H⟩
  refine XN (XT (XR (Xb [0, 0] A H fun ac w A H => XD (XT (XO (XS (XR (Xb [0] A H fun ac w A H => XD (XT (XS (Xf A (XI (XX (XX (XE (XN (XT (XR (Xb [0] A H fun ac w A H => ?_)))))))))))))))))))
  have A := A.re 34 (.int .i64 (IntKind.i64.wrap (((i : Nat) : Int) + 1))) (.int .i64 ((((i : Nat) : Int) + 1))) kr (SX.i_in _ ko ko)
  refine Xb [0] A H fun ac w A H => XD (XT ?_)
  have H := H.learnEq 0 (D.tlbF zm4 ((D.fen f t.sets i).set i (D.Set.dropN f e1 (D.Set.dropN f e1 (D.Set.dropN f e1 (D.Set.dropN f e1 e1 0) 1) 2) 3))) (D.tlbF zm4 (D.fen f t.sets (i + 1))) kr (by rw [D.fen_succ f he1]; rfl)
  exact ⟨(i + 1), ⟨SX.bb H 0, SX.bb H 1, SX.bb H 2, zm4, ko, A.sub _ kr, (H.pick [0, 1, 2] _ kc kr).ro_pick [0, 2] _ kr⟩, by show t.sets.length - (i + 1) < t.sets.length - i; omega⟩
 ·
  have A := A.rb 13 h1
  have h1p : ¬ (((i : Nat) : Int) < ((t.sets.length : Nat) : Int)) := kp h1
  refine Xf A (XI (XX (XX (XE (XT (XS (XR (Xb [0, 0, 0] A H fun ac w A H => ?_))))))))
  have hlc := (H.fact' 0 (D.tlbF zc (D.fen f t.sets i)) kr)
  have hcnt := SX.SlAt.count D.Set.len kc hlc
  have hsr := SX.SlAt.src (P := Tryz.prog) (SX.SlAt.any hlc) (tx := 31) Tryz.underlying31 (sets_one _)
  by_cases hn0 : zc.n = 0
  · have hl0 : (D.fen f t.sets i) = [] := List.eq_nil_of_length_eq_zero (by rw [← hcnt]; exact hn0)
    rw [hn0, hl0] at hsr
    refine SX.given A (SX.run_appendNone (P := Tryz.prog) (t := 31) (tx := 31) (ty := 31) (i := Tryz.t279) Tryz.underlying31 kr (some ⟨SX.bb H 3, 0, none⟩) (sLen := 0) (sCap := 0) (Nat.le_refl 0) hsr) kr kr fun ac A => ?_
    obtain ⟨zz, hzz⟩ : ∃ zz : SX.Sl, zz = ⟨some ⟨SX.bb H 3, 0, none⟩, 0, 0⟩ := ⟨_, rfl⟩
    have A := A.re 38 (.slice (some ⟨SX.bb H 3, 0, none⟩) 0 0) (.slice zz.a zz.n zz.c) kr (by rw [hzz])
    have hemp : w.heap[SX.bb H 3]? = some (.cells #[] 279 (0, 0)) := SX.boxHas H 3 #[] 279 kr kr
    have H := H.toFront 3 (p := (SX.bb H 3, .cells #[] 279 (0, 0))) kr
    have H := H.give (D.tlbF zz (D.fen f t.sets i)) (by intro no hno hw; rw [hl0, hzz]; exact .inr ⟨_, 0, #[], 279, (0, 0), rfl, hw, hno, rfl, Nat.le_refl _, fun i hi => absurd hi (Nat.not_lt_zero _)⟩)
    refine Xb [0, 2] A H fun ac w A H => XD (XT (XW (Xr [2] ((D.Tlb.enc (⟨(D.fen f t.sets i)⟩ : D.Tlb) zz)) A H ?_)))
    refine ⟨zz, ?_, (by rw [show (D.Tlb.do_ t f).sets = D.fen f t.sets i from by rw [show i = t.sets.length by omega, D.fen_all]; rfl]; exact (H.out 0 (D.tlbF zz (D.fen f t.sets i)) kr))⟩
    rfl
  obtain ⟨nb, k, zs, w1, hrun, hown, hk1, hk2, hz⟩ := SX.run_appendGrow (P := Tryz.prog) (t := 31) (tx := 31) (ty := 31) (e := 279) (i := Tryz.t279) (z := (Tryz.t279.zero).getD undef) Tryz.underlying31 kr kr kr (base := some ⟨SX.bb H 3, 0, none⟩) (sLen := 0) (sCap := 0) (olds := []) (by simp only [Builtin.firstCells, Nat.zero_mul] <;> rfl) hsr ko (by rw [Nat.zero_add, hcnt]; show _ * 232 ≤ _; rw [D.fen_len]; omega) kc
  have H := (hown _ _ _ H).rot
  rw [Nat.zero_add] at hrun hk1
  refine SX.given A hrun kr kr fun ac A => ?_
  obtain ⟨zz, hzz⟩ : ∃ zz : SX.Sl, zz = ⟨some ⟨nb, 0, none⟩, zc.n, k⟩ := ⟨_, rfl⟩
  have A := A.re 38 (.slice (some ⟨nb, 0, none⟩) zc.n k) (.slice zz.a zz.n zz.c) kr (by rw [hzz])
  have H := H.give (D.tlbF zz (D.fen f t.sets i)) (by intro no hno hw; rw [hzz]; exact list_give D.Set.len (by rw [hcnt, List.nil_append, List.take_left' (by rw [SX.flat_len _ 45 D.Set.len])]) hcnt hk1 no hno hw)
  refine Xb [0, 2] A H fun ac w A H => XD (XT (XW (Xr [2] ((D.Tlb.enc (⟨(D.fen f t.sets i)⟩ : D.Tlb) zz)) A H ?_)))
  refine ⟨zz, ?_, (by rw [show (D.Tlb.do_ t f).sets = D.fen f t.sets i from by rw [show i = t.sets.length by omega, D.fen_all]; rfl]; exact (H.out 0 (D.tlbF zz (D.fen f t.sets i)) kr))⟩
  rfl
end Go.Proofs.YtfkmcdkncmapmaaGreatDoor
