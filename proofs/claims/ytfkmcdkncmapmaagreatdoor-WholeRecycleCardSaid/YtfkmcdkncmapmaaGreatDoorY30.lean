/- Walks of functions, written by the session's own program wip/sx/sxgen.py; Lean checks them. -/
import Derived.Test.YtfkmcdkncmapmaaGreatDoorY02
import Derived.Test.YtfkmcdkncmapmaaGreatDoorY29
import Derived.Test.YtfkmcdkncmapmaaGreatDoorProg
import Derived.Test.YtfkmcdkncmapmaaGreatDoorY28
import Derived.Test.YtfkmcdkncmapmaaGreatDoorY04
set_option linter.unusedVariables false
set_option linter.unusedSimpArgs false
set_option maxRecDepth 100000
set_option maxHeartbeats 1000000
namespace Go.Proofs.YtfkmcdkncmapmaaGreatDoor
open Go Go.RowKit
theorem D.all_take (t : D.Tlb) (l : List D.Fence) {i : Nat} {f : D.Fence} (h : l[i]? = some f) : (t.all (l.take i)).do_ f = t.all (l.take (i + 1)) := by
 rw [List.take_add_one, h]
 simp [D.Tlb.all, List.foldl_append]
theorem D.all_len : ∀ (l : List D.Fence) (t : D.Tlb), (t.all l).sets.length = t.sets.length
 | [], _ => rfl
 | f :: l, t => by show ((t.do_ f).all l).sets.length = _; rw [D.all_len l]; simp [D.Tlb.do_]
theorem All_calls (t : D.Tlb) (l : List D.Fence)  {no : List Nat} (s1 s2 : SX.Sl) (w0 : World) (hno : ∀ b ∈ no, b < w0.heap.size) (hs1 : (D.tlbF s1 t.sets).P w0 no) (hs2 : (D.fnsF s2 l).P w0 no) (hL : Ld w0) (ht : t.Ok) (hx : ∀ f ∈ l, f.addr < 18446744073709551616) (hn : l.length < 1000000) : SX.Rets Tryz.prog 109 #[(D.Tlb.enc t s1), .slice s2.a s2.n s2.c] w0 (fun r_ w => ∃ y1 : SX.Sl, r_ = (D.Tlb.enc (t.all l) y1) ∧ (D.tlbF y1 ((t.all l).sets)).P w no) := by
 refine SX.enterN (args := [(D.Tlb.enc t s1), .slice s2.a s2.n s2.c]) (hno := hno) 23 Tryz.func109 rfl kr fun ac A H => ?_
 have H := H.known (D.tlbF s1 t.sets) hs1
 have H := H.known (D.fnsF s2 l) hs2
 have htn := ht.n
 refine XS (XR (Xb [0, 0] A H fun ac w A H => XD (XT (XS (XR (Xb [0, 0, 0] A H fun ac w A H => ?_))))))
 have hlc := (H.fact' 1 (D.tlbF s1 t.sets) kr)
 have hcnt := SX.SlAt.count D.Set.len kc hlc
 have hsr := SX.SlAt.src (P := Tryz.prog) (SX.SlAt.any hlc) (tx := 31) Tryz.underlying31 (sets_one _)
 by_cases hn0 : s1.n = 0
 · have hl0 : t.sets = [] := List.eq_nil_of_length_eq_zero (by rw [← hcnt]; exact hn0)
   rw [hn0, hl0] at hsr
   refine SX.given A (SX.run_appendNone (P := Tryz.prog) (t := 31) (tx := 31) (ty := 31) (i := Tryz.t279) Tryz.underlying31 kr (some ⟨SX.bb H 2, 0, none⟩) (sLen := 0) (sCap := 0) (Nat.le_refl 0) hsr) kr kr fun ac A => ?_
   obtain ⟨zz, hzz⟩ : ∃ zz : SX.Sl, zz = ⟨some ⟨SX.bb H 2, 0, none⟩, 0, 0⟩ := ⟨_, rfl⟩
   have A := A.re 10 (.slice (some ⟨SX.bb H 2, 0, none⟩) 0 0) (.slice zz.a zz.n zz.c) kr (by rw [hzz])
   have hemp : w.heap[SX.bb H 2]? = some (.cells #[] 279 (0, 0)) := SX.boxHas H 2 #[] 279 kr kr
   have H := H.toFront 2 (p := (SX.bb H 2, .cells #[] 279 (0, 0))) kr
   have H := H.give (D.tlbF zz t.sets) (by intro no hno hw; rw [hl0, hzz]; exact .inr ⟨_, 0, #[], 279, (0, 0), rfl, hw, hno, rfl, Nat.le_refl _, fun i hi => absurd hi (Nat.not_lt_zero _)⟩)
   refine Xb [0, 0] A H fun ac w A H => XD (XT (XS (XS (XR (Xb [0, 0] A H fun ac w A H => ?_)))))
   have A := A.re 13 (.int .i64 (((s2.n : Nat) : Int))) (.int .i64 (((l.length : Nat) : Int))) kr (by rw [SX.SlAt.count D.Fence.len kc (H.fact' 1 (D.fnsF s2 l) kr)])
   refine Xb [0] A H fun ac w A H => XD (XT (XB ?_))
   have H := H.learnEq 0 (D.tlbF zz t.sets) (D.tlbF zz (t.all (l.take 0)).sets) kr (by rw [List.take_zero]; rfl)
   refine SX.loopG (σ := Nat) (fun g ac w => match g with | (i) => ∃ B0 B1 : Nat, ∃ zc : SX.Sl, (i ≤ l.length) ∧ SX.Agrees 23 ac [(0, (D.Tlb.enc t s1)), (1, .slice s2.a s2.n s2.c), (2, .pointer (some ⟨B0, 0, none⟩)), (4, .pointer (some ⟨B1, 0, none⟩)), (12, .slice s2.a s2.n s2.c), (13, .int .i64 (((l.length : Nat) : Int))), (14, .int .i64 (((i : Nat) : Int)))] ∧ SX.Own w0 w [(B0, .cells #[.slice zc.a zc.n zc.c] 33 (0, 0)), (B1, .cells #[(.slice none 0 0)] 33 (0, 0))] ⟨[(D.tlbF zc (t.all (l.take i)).sets), (D.fnsF s2 l)], (SX.roOf H).fb, (SX.roOf H).no⟩) (fun g => match g with | (i) => l.length - i) (0) ?_ ?_
   · exact ⟨SX.bb H 0, SX.bb H 1, zz, (Nat.zero_le _), A.sub _ kr, (H.pick [0, 1] _ kc kr).ro_pick [0, 2] _ kr⟩
   rintro i ac w ⟨B0, B1, zc, hI, A, H⟩
   refine XS (XR (Xb [0] A H fun ac w A H => XD (XT (XS ?_))))
   refine Xs (decide (((i : Nat) : Int) < ((l.length : Nat) : Int))) (fun h1 => ?_) fun h1 => ?_
   ·
    have A := A.rb 15 h1
    have h1p : ((i : Nat) : Int) < ((l.length : Nat) : Int) := kp h1
    refine Xt A (XK (XT (XS (XB (XS (XR ?_))))))
    obtain ⟨e1, he1⟩ := SX.get_of_lt (l := l) (i := i) ko
    refine SX.given A (SX.run_idx (P := Tryz.prog) (H.fact' 1 (D.fnsF s2 l) kr) (T := 43) (E := 114) (k := .i64) (i := i) Tryz.underlying43 kr (by rw [SX.SlAt.count D.Fence.len kc (H.fact' 1 (D.fnsF s2 l) kr)]; exact (List.getElem?_eq_some_iff.1 he1).1)) kr kr fun ac A => ?_
    refine SX.given A (SX.run_loadN (P := Tryz.prog) (T := 114) (b := s2.blk) (o := s2.off + i * 4) (D.Fence.cells e1) kr kr (fun k hk => SX.SlAt.elem D.Fence.len (H.fact' 1 (D.fnsF s2 l) kr) he1 hk)) kr kr fun ac A => Xb [0, 2] A H fun ac w A H => XD (XT (XR (Xb [0, 2] A H fun ac w A H => SX.call A H (Do_calls (⟨(t.all (l.take i)).sets⟩ : D.Tlb) e1 zc w H.nos_lt (H.fact' 0 (D.tlbF zc ((t.all (l.take i)).sets)) kr) (hL.below H.below) (D.all_ok _ ht) (by first | exact hx _ (List.mem_of_getElem? he1) | exact hx _ (List.mem_of_getElem? he2))) kr kr ?_)))
    rintro _ ac w ⟨z4, rfl, hz4⟩ A H
    have H := H.learn (D.tlbF z4 (((⟨(t.all (l.take i)).sets⟩ : D.Tlb).do_ e1).sets)) hz4
    refine Xb [0] A H fun ac w A H => XD (XN (XT (XR (Xb [0] A H fun ac w A H => ?_))))
    have A := A.re 21 (.int .i64 (IntKind.i64.wrap (((i : Nat) : Int) + 1))) (.int .i64 ((((i : Nat) : Int) + 1))) kr (SX.i_in _ ko ko)
    refine Xb [0] A H fun ac w A H => XD (XT ?_)
    have H := H.learnEq 0 (D.tlbF z4 (((⟨(t.all (l.take i)).sets⟩ : D.Tlb).do_ e1).sets)) (D.tlbF z4 (t.all (l.take (i + 1))).sets) kr (by rw [← D.all_take t l he1])
    exact ⟨(i + 1), ⟨SX.bb H 0, SX.bb H 1, z4, ko, A.sub _ kr, (H.pick [0, 1] _ kc kr).ro_pick [0, 3] _ kr⟩, by show l.length - (i + 1) < l.length - i; omega⟩
   ·
    have A := A.rb 15 h1
    have h1p : ¬ (((i : Nat) : Int) < ((l.length : Nat) : Int)) := kp h1
    refine Xf A (XI (XX (XX (XE (XT (XS (XR (Xb [0, 1] A H fun ac w A H => XD (XT (XW (Xr [1] ((D.Tlb.enc (⟨(t.all (l.take i)).sets⟩ : D.Tlb) zc)) A H ?_)))))))))))
    refine ⟨zc, ?_, (by rw [show (t.all l).sets = (t.all (l.take i)).sets from by rw [List.take_of_length_le ko]]; exact (H.out 0 (D.tlbF zc ((t.all (l.take i)).sets)) kr))⟩
    rfl
 obtain ⟨nb, k, zs, w1, hrun, hown, hk1, hk2, hz⟩ := SX.run_appendGrow (P := Tryz.prog) (t := 31) (tx := 31) (ty := 31) (e := 279) (i := Tryz.t279) (z := (Tryz.t279.zero).getD undef) Tryz.underlying31 kr kr kr (base := some ⟨SX.bb H 2, 0, none⟩) (sLen := 0) (sCap := 0) (olds := []) (by simp only [Builtin.firstCells, Nat.zero_mul] <;> rfl) hsr ko (by rw [Nat.zero_add, hcnt]; show _ * 232 ≤ _; omega) kc
 have H := (hown _ _ _ H).rot
 rw [Nat.zero_add] at hrun hk1
 refine SX.given A hrun kr kr fun ac A => ?_
 obtain ⟨zz, hzz⟩ : ∃ zz : SX.Sl, zz = ⟨some ⟨nb, 0, none⟩, s1.n, k⟩ := ⟨_, rfl⟩
 have A := A.re 10 (.slice (some ⟨nb, 0, none⟩) s1.n k) (.slice zz.a zz.n zz.c) kr (by rw [hzz])
 have H := H.give (D.tlbF zz t.sets) (by intro no hno hw; rw [hzz]; exact list_give D.Set.len (by rw [hcnt, List.nil_append, List.take_left' (by rw [SX.flat_len _ 45 D.Set.len])]) hcnt hk1 no hno hw)
 refine Xb [0, 0] A H fun ac w A H => XD (XT (XS (XS (XR (Xb [0, 0] A H fun ac w A H => ?_)))))
 have A := A.re 13 (.int .i64 (((s2.n : Nat) : Int))) (.int .i64 (((l.length : Nat) : Int))) kr (by rw [SX.SlAt.count D.Fence.len kc (H.fact' 1 (D.fnsF s2 l) kr)])
 refine Xb [0] A H fun ac w A H => XD (XT (XB ?_))
 have H := H.learnEq 0 (D.tlbF zz t.sets) (D.tlbF zz (t.all (l.take 0)).sets) kr (by rw [List.take_zero]; rfl)
 refine SX.loopG (σ := Nat) (fun g ac w => match g with | (i) => ∃ B0 B1 B2 : Nat, ∃ zc : SX.Sl, (i ≤ l.length) ∧ SX.Agrees 23 ac [(0, (D.Tlb.enc t s1)), (1, .slice s2.a s2.n s2.c), (2, .pointer (some ⟨B0, 0, none⟩)), (4, .pointer (some ⟨B1, 0, none⟩)), (12, .slice s2.a s2.n s2.c), (13, .int .i64 (((l.length : Nat) : Int))), (14, .int .i64 (((i : Nat) : Int)))] ∧ SX.Own w0 w [(B0, .cells #[.slice zc.a zc.n zc.c] 33 (0, 0)), (B1, .cells #[(.slice none 0 0)] 33 (0, 0)), (B2, .cells #[] 279 (0, 0))] ⟨[(D.tlbF zc (t.all (l.take i)).sets), (D.fnsF s2 l)], (SX.roOf H).fb, (SX.roOf H).no⟩) (fun g => match g with | (i) => l.length - i) (0) ?_ ?_
 · exact ⟨SX.bb H 0, SX.bb H 1, SX.bb H 2, zz, (Nat.zero_le _), A.sub _ kr, (H.pick [0, 1, 2] _ kc kr).ro_pick [0, 2] _ kr⟩
 rintro i ac w ⟨B0, B1, B2, zc, hI, A, H⟩
 refine XS (XR (Xb [0] A H fun ac w A H => XD (XT (XS ?_))))
 refine Xs (decide (((i : Nat) : Int) < ((l.length : Nat) : Int))) (fun h2 => ?_) fun h2 => ?_
 ·
  have A := A.rb 15 h2
  have h2p : ((i : Nat) : Int) < ((l.length : Nat) : Int) := kp h2
  refine Xt A (XK (XT (XS (XB (XS (XR ?_))))))
  obtain ⟨e2, he2⟩ := SX.get_of_lt (l := l) (i := i) ko
  refine SX.given A (SX.run_idx (P := Tryz.prog) (H.fact' 1 (D.fnsF s2 l) kr) (T := 43) (E := 114) (k := .i64) (i := i) Tryz.underlying43 kr (by rw [SX.SlAt.count D.Fence.len kc (H.fact' 1 (D.fnsF s2 l) kr)]; exact (List.getElem?_eq_some_iff.1 he2).1)) kr kr fun ac A => ?_
  refine SX.given A (SX.run_loadN (P := Tryz.prog) (T := 114) (b := s2.blk) (o := s2.off + i * 4) (D.Fence.cells e2) kr kr (fun k hk => SX.SlAt.elem D.Fence.len (H.fact' 1 (D.fnsF s2 l) kr) he2 hk)) kr kr fun ac A => Xb [0, 3] A H fun ac w A H => XD (XT (XR (Xb [0, 3] A H fun ac w A H => SX.call A H (Do_calls (⟨(t.all (l.take i)).sets⟩ : D.Tlb) e2 zc w H.nos_lt (H.fact' 0 (D.tlbF zc ((t.all (l.take i)).sets)) kr) (hL.below H.below) (D.all_ok _ ht) (by first | exact hx _ (List.mem_of_getElem? he1) | exact hx _ (List.mem_of_getElem? he2))) kr kr ?_)))
  rintro _ ac w ⟨z5, rfl, hz5⟩ A H
  have H := H.learn (D.tlbF z5 (((⟨(t.all (l.take i)).sets⟩ : D.Tlb).do_ e2).sets)) hz5
  refine Xb [0] A H fun ac w A H => XD (XN (XT (XR (Xb [0] A H fun ac w A H => ?_))))
  have A := A.re 21 (.int .i64 (IntKind.i64.wrap (((i : Nat) : Int) + 1))) (.int .i64 ((((i : Nat) : Int) + 1))) kr (SX.i_in _ ko ko)
  refine Xb [0] A H fun ac w A H => XD (XT ?_)
  have H := H.learnEq 0 (D.tlbF z5 (((⟨(t.all (l.take i)).sets⟩ : D.Tlb).do_ e2).sets)) (D.tlbF z5 (t.all (l.take (i + 1))).sets) kr (by rw [← D.all_take t l he2])
  exact ⟨(i + 1), ⟨SX.bb H 0, SX.bb H 1, SX.bb H 2, z5, ko, A.sub _ kr, (H.pick [0, 1, 2] _ kc kr).ro_pick [0, 3] _ kr⟩, by show l.length - (i + 1) < l.length - i; omega⟩
 ·
  have A := A.rb 15 h2
  have h2p : ¬ (((i : Nat) : Int) < ((l.length : Nat) : Int)) := kp h2
  refine Xf A (XI (XX (XX (XE (XT (XS (XR (Xb [0, 1] A H fun ac w A H => XD (XT (XW (Xr [1] ((D.Tlb.enc (⟨(t.all (l.take i)).sets⟩ : D.Tlb) zc)) A H ?_)))))))))))
  refine ⟨zc, ?_, (by rw [show (t.all l).sets = (t.all (l.take i)).sets from by rw [List.take_of_length_le ko]]; exact (H.out 0 (D.tlbF zc ((t.all (l.take i)).sets)) kr))⟩
  rfl
end Go.Proofs.YtfkmcdkncmapmaaGreatDoor
set_option linter.unusedVariables false
set_option linter.unusedSimpArgs false
set_option maxRecDepth 100000
set_option maxHeartbeats 2000000
namespace Go.Proofs.YtfkmcdkncmapmaaGreatDoor
open Go Go.RowKit
theorem D.nat1_len (n : Nat) : (D.nat1 n).length = 1 := rfl
theorem D.int1_len (n : Int) : (D.int1 n).length = 1 := rfl
theorem spaces_one (l : List D.Space) : ∀ u ∈ l.flatMap D.Space.cells, u.oneCell' = true := by
 intro u hu
 obtain ⟨c, _, hc⟩ := List.mem_flatMap.1 hu
 exact List.all_eq_true.1 (show (D.Space.cells c).all (fun v => v.oneCell') = true from rfl) u hc
theorem fences_one (l : List D.Fence) : ∀ u ∈ l.flatMap D.Fence.cells, u.oneCell' = true := by
 intro u hu
 obtain ⟨c, _, hc⟩ := List.mem_flatMap.1 hu
 exact List.all_eq_true.1 (show (D.Fence.cells c).all (fun v => v.oneCell') = true from rfl) u hc
namespace D
theorem give_ok {p : Pool} (hp : p.Ok) (f : Nat) : (p.give f).Ok := by
 unfold Pool.give
 split
 · exact ⟨hp.base, hp.many, setN_lt _ _ _ _⟩
 · exact hp
structure MP where
 mem : Mem
 pool : Pool
def backL : Mem → Pool → List Nat → MP
 | m, p, [] => ⟨m, p⟩
 | m, p, f :: l => backL (clrM m f) (p.give f) l
def Kernel.backN (k : Kernel) (l : List Nat) : Kernel := k.withMP (backL k.mem k.pool l).mem (backL k.mem k.pool l).pool
theorem backL_at {m : Mem} {p : Pool} {l : List Nat} {i f : Nat} (h : l[i]? = some f) : backL m p (l.drop i) = backL (clrM m f) (p.give f) (l.drop (i + 1)) := by
 obtain ⟨hi, rfl⟩ := List.getElem?_eq_some_iff.1 h
 rw [List.drop_eq_getElem_cons hi, backL]
def Kernel.fence (k : Kernel) (l : List Fence) : Kernel := ⟨k.conf, k.mem, ⟨k.hart.tlb.all l, k.hart.satp, k.hart.priv, k.hart.sum, k.hart.mxr, k.hart.victim⟩, k.pool, k.asids, k.spaces, k.now, k.shared, k.fences ++ l⟩
end D
theorem Back_calls (m : D.Mem) (p : D.Pool) (fr : Nat)  {no : List Nat} (s1 : SX.Sl) (w0 : World) (hno : ∀ b ∈ no, b < w0.heap.size) (hs1 : (D.memF s1 m.f).P w0 no) (hp : p.Ok) (hf : fr < 4503599627370495) : SX.Rets Tryz.prog 116 #[(D.Mem.enc m s1), (D.Pool.enc p), .int .u64 (((fr : Nat) : Int))] w0 (fun r_ w => ∃ y1 : SX.Sl, r_ = (.tuple #[(D.Mem.enc (D.clrM m fr) y1), (D.Pool.enc (p.give fr))]) ∧ (D.memF y1 ((D.clrM m fr).f)).P w no) := by
 refine SX.enterN (args := [(D.Mem.enc m s1), (D.Pool.enc p), .int .u64 (((fr : Nat) : Int))]) (hno := hno) 20 Tryz.func116 rfl kr fun ac A H => ?_
 have H := H.known (D.memF s1 m.f) hs1
 refine XS (XR (Xb [0, 0, 0, 0] A H fun ac w A H => XD (XT (XS (XR (Xb [1, 0] A H fun ac w A H => Xc A H (pGive_calls p fr w (hp) ko) fun ac w A H => Xb [0, 0, 0, 0, 4, 0] A H fun ac w A H => XD (XT (XS (SX.drawn 6 [0, 4] kr A H fun w H => SX.takes [0, 4] [(0, some 0), (1, none), (3, some 1)] A H kr kd kr kr kr (Or.inl kr) fun ac A => SX.callD 2 [0, 4] A H (tclear_calls m fr s1 w H.nos_lt (H.fact' 0 (D.memF s1 m.f) kr) ko) kr kr kr kr (Or.inl kr) ?_)))))))))
 rintro _ ac w ⟨z2, rfl, hz2⟩ A H
 have H := H.learn (D.memF z2 ((⟨m.size, D.clrF m.f (fr * 4096 / 8) ((fr * 4096 + 4096) / 8)⟩ : D.Mem).f)) hz2
 refine SX.act 4 2 [0, 4] A H kr kr kr (Or.inl kr) (k := 1) fun ac w A H => SX.act 5 3 [0, 4] A H kr kr kr (Or.inl kr) (k := 1) fun ac w A H => ?_
 refine SX.doneD kr ?_ _
 refine XT (XW (Xr [2, 3] ((.tuple #[(D.Mem.enc (⟨m.size, D.clrF m.f (fr * 4096 / 8) ((fr * 4096 + 4096) / 8)⟩ : D.Mem) z2), (D.Pool.enc (p.give fr))])) A H ?_))
 refine ⟨z2, ?_, (H.out 0 (D.memF z2 ((D.clrM m fr).f)) kr)⟩
 rfl
theorem back_calls (k : D.Kernel) (frames : List Nat)  {no : List Nat} (s1 s2 s3 s4 s5 : SX.Sl) (w0 : World) (hno : ∀ b ∈ no, b < w0.heap.size) (hs1 : (D.memF s1 k.mem.f).P w0 no) (hs2 : (D.tlbF s2 k.hart.tlb.sets).P w0 no) (hs3 : (D.spsF s3 k.spaces).P w0 no) (hs4 : (D.fnsF s4 k.fences).P w0 no) (hs5 : (D.wsF s5 frames).P w0 no) (hp : k.pool.Ok) (hf : ∀ f ∈ frames, f < 4503599627370495) (hn : frames.length < 1000000) : SX.Rets Tryz.prog 54 #[(D.Kernel.enc k s1 s2 s3 s4), .slice s5.a s5.n s5.c] w0 (fun r_ w => ∃ y1 y2 y3 y4 : SX.Sl, r_ = (D.Kernel.enc (k.backN frames) y1 y2 y3 y4) ∧ (D.memF y1 ((k.backN frames).mem.f)).P w no ∧ (D.tlbF y2 ((k.backN frames).hart.tlb.sets)).P w no ∧ (D.spsF y3 ((k.backN frames).spaces)).P w no ∧ (D.fnsF y4 ((k.backN frames).fences)).P w no) := by
 refine SX.enterN (args := [(D.Kernel.enc k s1 s2 s3 s4), .slice s5.a s5.n s5.c]) (hno := hno) 26 Tryz.func54 rfl kr fun ac A H => ?_
 have H := H.known (D.memF s1 k.mem.f) hs1
 have H := H.known (D.tlbF s2 k.hart.tlb.sets) hs2
 have H := H.known (D.spsF s3 k.spaces) hs3
 have H := H.known (D.fnsF s4 k.fences) hs4
 have H := H.known (D.wsF s5 frames) hs5
 refine XS (XR (Xb [0, 0] A H fun ac w A H => XD (XT (XS (XS (XR (Xb [0, 0] A H fun ac w A H => ?_)))))))
 have A := A.re 8 (.int .i64 (((s5.n : Nat) : Int))) (.int .i64 (((frames.length : Nat) : Int))) kr (by rw [SX.SlAt.count D.nat1_len kc (H.fact' 0 (D.wsF s5 frames) kr)])
 refine Xb [0] A H fun ac w A H => XD (XT (XB ?_))
 refine SX.loopG (σ := Nat × D.Mem × D.Pool) (fun g ac w => match g with | (i, mm, pp) => ∃ B0 B1 : Nat, ∃ zm : SX.Sl, (pp.Ok ∧ i ≤ frames.length ∧ D.backL mm pp (frames.drop i) = D.backL k.mem k.pool frames) ∧ SX.Agrees 26 ac [(1, .slice s5.a s5.n s5.c), (2, .pointer (some ⟨B0, 0, none⟩)), (4, .pointer (some ⟨B1, 0, none⟩)), (7, .slice s5.a s5.n s5.c), (8, .int .i64 (((frames.length : Nat) : Int))), (9, .int .i64 (((i : Nat) : Int)))] ∧ SX.Own w0 w [(B0, .cells (D.Kernel.cs (⟨k.conf, (⟨mm.size, mm.f⟩ : D.Mem), k.hart, pp, k.asids, k.spaces, k.now, k.shared, k.fences⟩ : D.Kernel) zm s2 s3 s4) 45 (0, 0)), (B1, .cells (D.Kernel.cs (⟨(⟨0, 0, 0, 0⟩ : D.Conf), (⟨0, (fun _ => 0)⟩ : D.Mem), (⟨(⟨[]⟩ : D.Tlb), (⟨0, 0, 0⟩ : D.Satp), 0, false, false, 0⟩ : D.Hart), (⟨0, 0, 0⟩ : D.Pool), (⟨0, 0, 0⟩ : D.Asids), [], 0, 0, []⟩ : D.Kernel) SX.Sl.nil SX.Sl.nil SX.Sl.nil SX.Sl.nil) 45 (0, 0))] ⟨[(D.memF zm mm.f), (D.wsF s5 frames), (D.fnsF s4 k.fences), (D.spsF s3 k.spaces), (D.tlbF s2 k.hart.tlb.sets), (D.memF s1 k.mem.f)], (SX.roOf H).fb, (SX.roOf H).no⟩) (fun g => match g with | (i, mm, pp) => frames.length - i) (0, k.mem, k.pool) ?_ ?_
 · exact ⟨SX.bb H 0, SX.bb H 1, s1, (⟨hp, Nat.zero_le _, rfl⟩), A.sub _ kr, (H.pick [0, 1] _ kc kr).ro_pick [4, 0, 1, 2, 3, 4] _ kr⟩
 rintro ⟨i, mm, pp⟩ ac w ⟨B0, B1, zm, hI, A, H⟩
 refine XS (XR (Xb [0] A H fun ac w A H => XD (XT (XS ?_))))
 refine Xs (decide (((i : Nat) : Int) < ((frames.length : Nat) : Int))) (fun h1 => ?_) fun h1 => ?_
 ·
  have A := A.rb 10 h1
  have h1p : ((i : Nat) : Int) < ((frames.length : Nat) : Int) := kp h1
  refine Xt A (XK (XT (XS (XB (XS (XR ?_))))))
  obtain ⟨e1, he1⟩ := SX.get_of_lt (l := frames) (i := i) ko
  refine SX.given A (SX.run_idx (P := Tryz.prog) (H.fact' 1 (D.wsF s5 frames) kr) (T := 72) (E := 27) (k := .i64) (i := i) Tryz.underlying72 kr (by rw [SX.SlAt.count D.nat1_len kc (H.fact' 1 (D.wsF s5 frames) kr)]; exact (List.getElem?_eq_some_iff.1 he1).1)) kr kr fun ac A => ?_
  refine SX.given A (SX.run_load1 (P := Tryz.prog) (T := 27) (b := s5.blk) (o := s5.off + i * 1) (v := .int .u64 (((e1 : Nat) : Int))) kr (SX.SlAt.elem (f := D.nat1) D.nat1_len (H.fact' 1 (D.wsF s5 frames) kr) he1 (k := 0) (Nat.lt_of_lt_of_eq (m := 1) kc rfl))) kr kr fun ac A => Xb [0] A H fun ac w A H => XD (XT (XR (Xb [0, 0, 0, 0, 0] A H fun ac w A H => SX.call A H (Back_calls (⟨mm.size, mm.f⟩ : D.Mem) pp e1 zm w H.nos_lt (H.fact' 0 (D.memF zm mm.f) kr) (hI.1) (by first | exact hf _ (List.mem_of_getElem? he1) | exact hf _ (List.mem_of_getElem? he2))) kr kr ?_)))
  rintro _ ac w ⟨z6, rfl, hz6⟩ A H
  have H := H.learn (D.memF z6 ((D.clrM (⟨mm.size, mm.f⟩ : D.Mem) e1).f)) hz6
  refine Xb [0, 0, 0, 0, 0, 0, 0] A H fun ac w A H => XD (XN (XT (XR (Xb [0] A H fun ac w A H => ?_))))
  have A := A.re 24 (.int .i64 (IntKind.i64.wrap (((i : Nat) : Int) + 1))) (.int .i64 ((((i + 1) : Nat) : Int))) kr (SX.i_addN i 1 ko)
  refine Xb [0] A H fun ac w A H => XD (XT ?_)
  obtain ⟨hI1, hI2, hI3⟩ := hI
  exact ⟨(i + 1, D.clrM mm e1, pp.give e1), ⟨SX.bb H 0, SX.bb H 1, z6, (⟨D.give_ok hI1 _, by omega, by rw [← D.backL_at he1]; exact hI3⟩), A.sub _ kr, (H.pick [0, 1] _ kc kr).ro_pick [0, 2, 3, 4, 5, 6] _ kr⟩, by show frames.length - (i + 1) < frames.length - i; omega⟩
 ·
  have A := A.rb 10 h1
  have h1p : ¬ (((i : Nat) : Int) < ((frames.length : Nat) : Int)) := kp h1
  refine Xf A (XI (XX (XX (XE (XT (XS (XR (Xb [0, 1] A H fun ac w A H => XD (XT (XW (Xr [1] ((D.Kernel.enc (⟨k.conf, (⟨mm.size, mm.f⟩ : D.Mem), k.hart, pp, k.asids, k.spaces, k.now, k.shared, k.fences⟩ : D.Kernel) zm s2 s3 s4)) A H ?_)))))))))))
  have hdr : D.backL k.mem k.pool frames = ⟨mm, pp⟩ := by rw [← hI.2.2, show i = frames.length by omega, List.drop_length]; rfl
  have hf : (k.backN frames) = k.withMP mm pp := by rw [D.Kernel.backN, hdr]
  refine ⟨zm, s2, s3, s4, ?_, (by rw [hf]; exact (H.out 0 (D.memF zm mm.f) kr)), (by rw [hf]; exact (H.out 4 (D.tlbF s2 k.hart.tlb.sets) kr)), (by rw [hf]; exact (H.out 3 (D.spsF s3 k.spaces) kr)), (by rw [hf]; exact (H.out 2 (D.fnsF s4 k.fences) kr))⟩
  rw [hf] <;> rfl
theorem Fence_calls (k : D.Kernel) (l : List D.Fence)  {no : List Nat} (s1 s2 s3 s4 s5 : SX.Sl) (w0 : World) (hno : ∀ b ∈ no, b < w0.heap.size) (hs1 : (D.memF s1 k.mem.f).P w0 no) (hs2 : (D.tlbF s2 k.hart.tlb.sets).P w0 no) (hs3 : (D.spsF s3 k.spaces).P w0 no) (hs4 : (D.fnsF s4 k.fences).P w0 no) (hs5 : (D.fnsF s5 l).P w0 no) (hL : Ld w0) (ht : k.hart.tlb.Ok) (hx : ∀ f ∈ l, f.addr < 18446744073709551616) (hn : k.fences.length + l.length < 1000000) : SX.Rets Tryz.prog 38 #[(D.Kernel.enc k s1 s2 s3 s4), .slice s5.a s5.n s5.c] w0 (fun r_ w => ∃ y1 y2 y3 y4 : SX.Sl, r_ = (D.Kernel.enc (k.fence l) y1 y2 y3 y4) ∧ (D.memF y1 ((k.fence l).mem.f)).P w no ∧ (D.tlbF y2 ((k.fence l).hart.tlb.sets)).P w no ∧ (D.spsF y3 ((k.fence l).spaces)).P w no ∧ (D.fnsF y4 ((k.fence l).fences)).P w no) := by
 refine SX.enterN (args := [(D.Kernel.enc k s1 s2 s3 s4), .slice s5.a s5.n s5.c]) (hno := hno) 25 Tryz.func38 rfl kr fun ac A H => ?_
 have H := H.known (D.memF s1 k.mem.f) hs1
 have H := H.known (D.tlbF s2 k.hart.tlb.sets) hs2
 have H := H.known (D.spsF s3 k.spaces) hs3
 have H := H.known (D.fnsF s4 k.fences) hs4
 have H := H.known (D.fnsF s5 l) hs5
 refine XS (XR (Xb [0, 0] A H fun ac w A H => XD (XT (XS (XR (Xb [0, 0, 0, 0] A H fun ac w A H => SX.call A H (All_calls k.hart.tlb l s2 s5 w H.nos_lt (H.fact' 3 (D.tlbF s2 k.hart.tlb.sets) kr) (H.fact' 0 (D.fnsF s5 l) kr) (hL.below H.below) (by assumption) (by assumption) ko) kr kr ?_))))))
 rintro _ ac w ⟨z6, rfl, hz6⟩ A H
 have H := H.learn (D.tlbF z6 ((k.hart.tlb.all l).sets)) hz6
 refine Xb [0, 0, 0] A H fun ac w A H => XD (XT (XS (XR (Xb [0, 0, 0, 0, 0] A H fun ac w A H => ?_))))
 have A := A.re 16 (.int .i64 (((s4.n : Nat) : Int))) (.int .i64 (((k.fences.length : Nat) : Int))) kr (by rw [SX.SlAt.count D.Fence.len kc (H.fact' 2 (D.fnsF s4 k.fences) kr)])
 refine Xb [0, 0, 0] A H fun ac w A H => ?_
 have A := A.re 19 (.int .i64 (((s4.n : Nat) : Int))) (.int .i64 (((k.fences.length : Nat) : Int))) kr (by rw [SX.SlAt.count D.Fence.len kc (H.fact' 2 (D.fnsF s4 k.fences) kr)])
 have hfa := H.fact' 2 (D.fnsF s4 k.fences) kr
 have hcnt := SX.SlAt.count D.Fence.len kc hfa
 have hle := SX.SlAt.le hfa
 refine SX.given A (SX.run_sub03 (P := Tryz.prog) (w := w) (k' := .i64) (k'' := .i64) hfa (T := 43) (E := 114) (sz := 4) Tryz.underlying43 kr k.fences.length k.fences.length (Nat.le_refl _) ko) kr kr fun ac A => ?_
 have A := A.re 20 (.slice s4.a k.fences.length k.fences.length) (.slice s4.a s4.n s4.n) kr (by rw [hcnt])
 refine Xb [0] A H fun ac w A H => ?_
 have hfa := H.fact' 2 (D.fnsF s4 k.fences) kr
 have hfb := H.fact' 1 (D.fnsF s5 l) kr
 obtain ⟨za6, w1, hrun, H⟩ := SX.run_app2 (P := Tryz.prog) (f := D.Fence.cells) (sz := 4) D.Fence.len kc fences_one (t := 43) (ty := 43) (e := 114) (i := Tryz.t114) (z := (Tryz.t114.zero).getD undef) Tryz.underlying43 kr kr kr kc rfl H s4 s5 k.fences l hfa hfb (by show _ * 32 ≤ _; omega)
 refine SX.given A hrun kr kr fun ac A => Xb [0, 0] A H fun ac w A H => XD (XT (XS (XR (Xb [0, 1] A H fun ac w A H => XD (XT (XW (Xr [1] ((D.Kernel.enc (⟨k.conf, k.mem, (⟨(k.hart.tlb.all l), k.hart.satp, k.hart.priv, k.hart.sum, k.hart.mxr, k.hart.victim⟩ : D.Hart), k.pool, k.asids, k.spaces, k.now, k.shared, (k.fences ++ l)⟩ : D.Kernel) s1 z6 s3 za6)) A H ?_)))))))
 refine ⟨s1, z6, s3, za6, ?_, (H.out 6 (D.memF s1 ((k.fence l).mem.f)) kr), (H.out 1 (D.tlbF z6 ((k.fence l).hart.tlb.sets)) kr), (H.out 4 (D.spsF s3 ((k.fence l).spaces)) kr), (H.out 0 (D.fnsF za6 ((k.fence l).fences)) kr)⟩
 rfl
end Go.Proofs.YtfkmcdkncmapmaaGreatDoor
