/- Walks of functions, written by the session's own program wip/sx/sxgen.py; Lean checks them. -/
import Derived.Test.YtfkmcdkncmapmaaGreatDoorY02
import Derived.Test.YtfkmcdkncmapmaaGreatDoorY17
import Derived.Test.YtfkmcdkncmapmaaGreatDoorY19
import Derived.Test.YtfkmcdkncmapmaaGreatDoorProg
import Derived.Test.YtfkmcdkncmapmaaGreatDoorY05
set_option linter.unusedVariables false
set_option linter.unusedSimpArgs false
set_option maxRecDepth 100000
set_option maxHeartbeats 1000000
namespace Go.Proofs.YtfkmcdkncmapmaaGreatDoor
open Go Go.RowKit
namespace D
def atN (m : Mem) (t : Nat) (i : Nat) : Pte := Pte.get (wordN m (placeN t i))
end D
theorem at_calls (m : D.Mem) (t : Nat) (i : Nat)  {no : List Nat} (s1 : SX.Sl) (w0 : World) (hno : ∀ b ∈ no, b < w0.heap.size) (hs1 : (D.memF s1 m.f).P w0 no) (ht : t < 4503599627370495) (hi : i < 512) : SX.Gives Tryz.prog 113 #[(D.Mem.enc m s1), .int .u64 (((t : Nat) : Int)), .int .i64 (((i : Nat) : Int))] w0 ((D.Pte.enc (D.atN m t i))) := by
 refine SX.enterN (args := [(D.Mem.enc m s1), .int .u64 (((t : Nat) : Int)), .int .i64 (((i : Nat) : Int))]) (hno := hno) 13 Tryz.func113 rfl kr fun ac A H => ?_
 have H := H.known (D.memF s1 m.f) hs1
 obtain ⟨l, hl, hmo⟩ := hs1
 refine XS (XR (Xb [0, 0] A H fun ac w A H => XD (XT (XS (SX.drawn 7 [0] kr A H fun w H => SX.takes [0] [(0, some 0), (1, none), (2, none)] A H kr kd kr kr kr (Or.inl kr) fun ac A => SX.callGD 3 [0] A H (place_calls t i w ko ko) kr kr kr kr (Or.inl kr) fun ac w A H => SX.callGD 4 [0] A H (Word_calls m (placeN t i) s1 w H.nos_lt (H.fact' 0 (D.memF s1 m.f) kr) (by unfold placeN; omega)) kr kr kr kr (Or.inl kr) fun ac w A H => SX.callGD 5 [0] A H (PGet_calls (D.wordN m (placeN t i)) w (D.wordN_lt hmo _)) kr kr kr kr (Or.inl kr) fun ac w A H => SX.act 6 1 [0] A H kr kr kr (Or.inl kr) fun ac w A H => ?_)))))
 refine SX.doneD kr ?_ _
 refine XT (XW (Xr [1] ((D.Pte.enc (D.Pte.get (D.wordN m (placeN t i))))) A H ?_))
 rfl
end Go.Proofs.YtfkmcdkncmapmaaGreatDoor
set_option linter.unusedVariables false
set_option linter.unusedSimpArgs false
namespace Go.Proofs.YtfkmcdkncmapmaaGreatDoor
open Go Go.RowKit
theorem entries_calls (m : D.Mem) (s1 : SX.Sl) (f : Nat) (w0 : World) : SX.Rets Tryz.prog 117 #[D.Mem.enc m s1, .int .u64 (f : Int)] w0 (fun v w' => ∃ bm bf : Nat, v = .func (.func 159) #[] #[.pointer (some ⟨bm, 0, none⟩), .pointer (some ⟨bf, 0, none⟩)] ∧ w0.heap.size ≤ bm ∧ w0.heap.size ≤ bf ∧ bm ≠ bf ∧ w'.heap[bm]? = some (.cells (D.Mem.cs m s1) 30 (0, 0)) ∧ w'.heap[bf]? = some (.cells #[.int .u64 (f : Int)] 27 (0, 0))) := by
 refine SX.enter (args := [D.Mem.enc m s1, .int .u64 (f : Int)]) 6 Tryz.func117 rfl kr fun ac A H => XS (XR (Xb [0, 0, 0] A H fun ac w A H => XD (XT (XS (XR (Xb [0, 0] A H fun ac w A H => XD (XT (XW ?_))))))))
 have hs : (SX.bb H 0) ≠ (SX.bb H 1) := by
  have h := H.nodup
  have h : [SX.bb H 0, SX.bb H 1].Nodup := (by kernel_rfl : _ = [SX.bb H 0, SX.bb H 1]) ▸ h
  exact fun he => by rw [he] at h; simp at h
 refine Xr [0] (.func (.func 159) #[] #[.pointer (some ⟨SX.bb H 0, 0, none⟩), .pointer (some ⟨SX.bb H 1, 0, none⟩)]) A H ?_
 exact ⟨SX.bb H 0, SX.bb H 1, rfl, H.fresh (SX.bb H 0, .cells (D.Mem.cs m s1) 30 (0, 0)) (List.mem_of_getElem? (i := 0) kr), H.fresh (SX.bb H 1, .cells #[.int .u64 (f : Int)] 27 (0, 0)) (List.mem_of_getElem? (i := 1) kr), hs, SX.boxHas H 0 (D.Mem.cs m s1) 30 kr kr, SX.boxHas H 1 #[.int .u64 (f : Int)] 27 kr kr⟩
namespace D
/-- Whether the row's word holds something. -/
def presN (m : Mem) (f i : Nat) : Bool := decide (wordN m (placeN f i) ≠ 0)
def EntIx (m : Mem) (f : Nat) := { i : Nat // i < 512 ∧ presN m f i = true }
def entEnc (m : Mem) (f : Nat) (x : EntIx m f) : Array Value := #[.int .i64 ((x.1 : Nat) : Int), Pte.enc (atN m f x.1)]
end D
theorem entries_stops (m : D.Mem) (s1 : SX.Sl) (f : Nat) (bm bf : Nat) (wS w0 : World) (hs1 : (D.memF s1 m.f).P wS []) (hS : Below wS.heap.size wS w0)
 (hm : w0.heap[bm]? = some (.cells (D.Mem.cs m s1) 30 (0, 0))) (hf : w0.heap[bf]? = some (.cells #[.int .u64 (f : Int)] 27 (0, 0))) (hft : f < 4503599627370495) :
 SeqStopsK Fence.wide 8 Tryz.prog 159 #[.pointer (some ⟨bm, 0, none⟩), .pointer (some ⟨bf, 0, none⟩)] (D.entEnc m f) (SX.KeepK [bm, bf] wS.heap.size) (fun xs => xs.map (·.1) = (List.range 512).filter (D.presN m f)) (fun _ => True) 512 w0 := by
 intro l J Jx W hb hJ hJx hY hj0
 have O : SX.Free Fence.wide := SX.free_wide
 have eargs : (#[.func (.yield l) #[] #[]] ++ #[.pointer (some ⟨bm, 0, none⟩), .pointer (some ⟨bf, 0, none⟩)] : Array Value) = [.func (.yield l) #[] #[], .pointer (some ⟨bm, 0, none⟩), .pointer (some ⟨bf, 0, none⟩)].toArray := by simp
 rw [eargs]
 refine SX.enterI (no := []) (by simp) 25 Tryz.func159 rfl kr fun ac A H => SX.seqI (wpIn_region (SX.batchI [0] A H kr kr fun ac w A H => SX.ops_doneI kr (XT (wpIn_block ?_))))
 have hbw : Below w0.heap.size w0 w := hb.trans (H.below.mono hb.size)
 have hmw : w.heap[bm]? = some (.cells (D.Mem.cs m s1) 30 (0, 0)) := by rw [hbw.block bm (SX.getElem?_lt hm)]; exact hm
 have hfw : w.heap[bf]? = some (.cells #[.int .u64 (f : Int)] 27 (0, 0)) := by rw [hbw.block bf (SX.getElem?_lt hf)]; exact hf
 refine SX.loopGI (σ := Nat) (fun i ac w => i ≤ 512 ∧ (∃ pre : List (D.EntIx m f), pre.map (·.1) = (List.range i).filter (D.presN m f) ∧ J pre w) ∧ SX.Agrees 25 ac [(0, .func (.yield l) #[] #[]), (1, .pointer (some ⟨bm, 0, none⟩)), (2, .pointer (some ⟨bf, 0, none⟩)), (6, .int .i64 ((i : Nat) : Int))] ∧ Below wS.heap.size wS w ∧ w.heap[bm]? = some (.cells (D.Mem.cs m s1) 30 (0, 0)) ∧ w.heap[bf]? = some (.cells #[.int .u64 (f : Int)] 27 (0, 0))) (fun i => 512 - i) 0 ?_ ?_
 · exact ⟨by omega, ⟨[], by simp, SX.abides_below hJ hj0 H.below⟩, A.sub _ kr, hS.trans (hbw.mono hS.size), hmw, hfw⟩
 · rintro i ac w ⟨hi, ⟨pre, hpre, hj⟩, A, hSw, hmw, hfw⟩
   have H : SX.Own w w [] ⟨[], [], []⟩ := SX.Own.start w [] (by simp)
   have hsw : (D.memF s1 m.f).P w [] := (D.memF s1 m.f).st wS w [] [] (fun b o _ hb => ⟨by simp, by rw [hSw.block b (SX.getElem?_lt hb)]; exact hb⟩) hs1
   have H := H.known (D.memF s1 m.f) hsw
   have H := H.fb_old hmw
   have H := H.fb_old hfw
   refine SX.seqI (wpIn_region (SX.batchI [0] A H kr kr fun ac w1 A H => SX.ops_doneI kr (XT (SX.seqI ?_))))
   refine Xs (decide (((i : Nat) : Int) < 512)) (fun h1 => ?_) fun h1 => ?_
   · have A := A.re 7 (.bool (decide (((i : Nat) : Int) < 512))) (.bool true) kr (by rw [h1])
     have h1p : i < 512 := by simp only [decide_eq_true_eq] at h1; omega
     have hlen : pre.length < 512 := by
      have h := congrArg List.length hpre
      have h2 := List.length_filter_le (D.presN m f) (List.range i)
      rw [List.length_map] at h
      rw [List.length_range] at h2
      omega
     refine SX.condTI A kr kr (wpIn_skip (XT (SX.seqI (wpIn_block (SX.seqI (wpIn_region (SX.batchI [0, 0] A H kr kr fun ac w2 A H => SX.ops_doneI kr (XT (SX.seqI (SX.drawnI 5 [] kr A H fun w2 H => SX.takes [] [(0, some 1000), (1, some 1001), (2, none)] A H kr kd kr kr kr (Or.inl kr) fun ac A => SX.callGD 3 [] A H (place_calls f i w2 ko ko) kr kr kr kr (Or.inl kr) fun ac w3 A H => SX.callGD 4 [] A H (Word_calls m (placeN f i) s1 w3 H.nos_lt (H.fact' 0 (D.memF s1 m.f) kr) (by unfold placeN; omega)) kr kr kr kr (Or.inl kr) fun ac w4 A H => SX.act 5 0 [] A H kr kr kr (Or.inl kr) fun ac w5 A H => ?_))))))))))
     refine SX.doneD kr ?_ _
     refine XT (SX.seqI (wpIn_region (SX.batchI [0, 0, 0] A H kr kr fun ac w6 A H => ?_)))
     obtain ⟨ll, hll, hmo⟩ := hs1
     have hwd := D.wordN_lt hmo (placeN f i)
     refine Xs (((D.wordN m (placeN f i) : Nat) : Int) != 0) (fun h2 => ?_) fun h2 => ?_
     · have A := A.re 16 (.bool (((D.wordN m (placeN f i) : Nat) : Int) != 0)) (.bool true) kr (by rw [h2])
       have hp : D.presN m f i = true := by have hh := h2; simp only [bne_iff_ne, ne_eq] at hh; simp only [D.presN, ne_eq, decide_eq_true_eq]; omega
       refine SX.batchI [0, 0, 0] A H kr kr fun ac w7 A H => SX.callGI A H (PGet_calls (D.wordN m (placeN f i)) w7 hwd) kr kr fun ac w8 A H => ?_
       have hj8 : J pre w8 := SX.abides_below hJ hj H.below
       refine SX.yieldI A (hY pre ⟨i, h1p, hp⟩ w8 hj8 hlen) kr kr fun e1 w9 he => ?_
       rcases he with ⟨rfl, hj9, hk⟩ | ⟨rfl, hx9⟩
       · refine ⟨_, rfl, fun ac A => ?_⟩
         have hS9 : Below wS.heap.size wS w9 := (hSw.trans (H.below.mono hSw.size)).trans hk.below
         have hm8 : w8.heap[bm]? = some (.cells (D.Mem.cs m s1) 30 (0, 0)) := by rw [H.below.block bm (SX.getElem?_lt hmw)]; exact hmw
         have hf8 : w8.heap[bf]? = some (.cells #[.int .u64 (f : Int)] 27 (0, 0)) := by rw [H.below.block bf (SX.getElem?_lt hfw)]; exact hfw
         have hm9 := hk.same bm (by simp) _ hm8
         have hf9 := hk.same bf (by simp) _ hf8
         have H : SX.Own w9 w9 [] ⟨[], [], []⟩ := SX.Own.start w9 [] (by simp)
         refine SX.batchI [0, 0] A H kr kr fun ac w10 A H => SX.ops_doneI kr (XT (SX.condFI A kr kr (wpIn_skip (XN (XT (wpIn_region (SX.batchI [0] A H kr kr fun ac w10 A H => ?_)))))))
         have A := A.re 24 (.int .i64 (IntKind.i64.wrap (((i : Nat) : Int) + 1))) (.int .i64 (((i + 1 : Nat) : Int))) kr (SX.i_addN i 1 ko)
         refine SX.batchI [0] A H kr kr fun ac w11 A H => SX.ops_doneI kr ?_
         refine ⟨i + 1, ⟨by omega, ⟨pre ++ [⟨i, h1p, hp⟩], ?_, SX.abides_below hJ hj9 H.below⟩, A.sub _ kr, hS9.trans (H.below.mono hS9.size), ?_, ?_⟩, by omega⟩
         · rw [List.map_append, hpre, List.range_succ, List.filter_append]; simp only [List.filter_cons, hp, List.map_cons, List.map_nil, List.filter_nil, if_true]; rfl
         · rw [H.below.block bm (SX.getElem?_lt hm9)]; exact hm9
         · rw [H.below.block bf (SX.getElem?_lt hf9)]; exact hf9
       · refine ⟨_, rfl, fun ac A => ?_⟩
         have H : SX.Own w9 w9 [] ⟨[], [], []⟩ := SX.Own.start w9 [] (by simp)
         refine SX.batchI [0, 0] A H kr kr fun ac w10 A H => SX.ops_doneI kr (XT (SX.condTI A kr kr (wpIn_ret ?_)))
         refine (show bodyPost Tryz.prog Tryz.f159 (fun e W' => (∃ v, e = .returned v) ∧ ((∃ xs, List.map (·.1) xs = (List.range 512).filter (D.presN m f) ∧ J xs W') ∨ (∃ pre, True ∧ Jx pre W'))) .ret _ _ from ?_)
         refine SX.retW [] (.tuple #[]) A H kr kr kr ?_
         exact ⟨⟨_, rfl⟩, .inr ⟨_, trivial, SX.abides_below hJx hx9 H.below⟩⟩
     · have A := A.re 16 (.bool (((D.wordN m (placeN f i) : Nat) : Int) != 0)) (.bool false) kr (by rw [h2])
       have hp : D.presN m f i = false := by have hh := h2; simp only [bne_eq_false_iff_eq] at hh; simp only [D.presN, ne_eq, decide_eq_false_iff_not]; omega
       refine SX.batchI [0, 0, 0, 0, 0, 0, 0] A H kr kr fun ac w7 A H => SX.ops_doneI kr (XT (SX.condFI A kr kr (wpIn_skip (XN (XT (wpIn_region (SX.batchI [0] A H kr kr fun ac w10 A H => ?_)))))))
       have A := A.re 24 (.int .i64 (IntKind.i64.wrap (((i : Nat) : Int) + 1))) (.int .i64 (((i + 1 : Nat) : Int))) kr (SX.i_addN i 1 ko)
       refine SX.batchI [0] A H kr kr fun ac w11 A H => SX.ops_doneI kr ?_
       refine ⟨i + 1, ⟨by omega, ⟨pre, ?_, SX.abides_below hJ hj H.below⟩, A.sub _ kr, hSw.trans (H.below.mono hSw.size), ?_, ?_⟩, by omega⟩
       · rw [hpre, List.range_succ, List.filter_append]; simp [hp]
       · rw [H.below.block bm (SX.getElem?_lt hmw)]; exact hmw
       · rw [H.below.block bf (SX.getElem?_lt hfw)]; exact hfw
   · have A := A.re 7 (.bool (decide (((i : Nat) : Int) < 512))) (.bool false) kr (by rw [h1])
     have h1p : ¬ i < 512 := by simp only [decide_eq_false_iff_not] at h1; omega
     have e512 : i = 512 := by omega
     refine SX.condFI A kr kr (wpIn_exit (XX (XX (XE ?_))))
     refine (show bodyPost Tryz.prog Tryz.f159 (fun e W' => (∃ v, e = .returned v) ∧ ((∃ xs, List.map (·.1) xs = (List.range 512).filter (D.presN m f) ∧ J xs W') ∨ (∃ pre, True ∧ Jx pre W'))) .ret _ _ from ?_)
     refine SX.retW [] (.tuple #[]) A H kr kr kr ?_
     exact ⟨⟨_, rfl⟩, .inl ⟨pre, by rw [hpre, e512], SX.abides_below hJ hj H.below⟩⟩
end Go.Proofs.YtfkmcdkncmapmaaGreatDoor
set_option linter.unusedVariables false
set_option linter.unusedSimpArgs false
set_option maxRecDepth 100000
set_option maxHeartbeats 1000000
namespace Go.Proofs.YtfkmcdkncmapmaaGreatDoor
open Go Go.RowKit
namespace D
theorem get_lt (x : Nat) : (Pte.get x).Lt := ⟨Nat.lt_of_lt_of_le (getN_lt2 x 8 2 kc) kc, Nat.lt_of_lt_of_le (getN_lt2 x 10 44 kc) kc, Nat.lt_of_lt_of_le (getN_lt2 x 54 10 kc) kc⟩
def markP (m : Mem) (l : Leaf) (d : Bool) : Pte := { Pte.get (wordN m l.at_) with a := true, d := (Pte.get (wordN m l.at_)).d || d }
def markM (m : Mem) (l : Leaf) (d : Bool) : Mem := storeM m l.at_ 8 (if (markP m l d).may then (markP m l d).put else 0)
def markL (m : Mem) (l : Leaf) (d : Bool) : Leaf := { l with pte := { l.pte with a := true, d := (Pte.get (wordN m l.at_)).d || d } }
end D
theorem Mark_calls (m : D.Mem) (l : D.Leaf) (d : Bool)  {no : List Nat} (s1 : SX.Sl) (w0 : World) (hno : ∀ b ∈ no, b < w0.heap.size) (hs1 : (D.memF s1 m.f).P w0 no) (hx : l.at_ < 18446744073709551616) (hms : m.size ≤ 1099511627776) : SX.Rets Tryz.prog 184 #[(D.Mem.enc m s1), (D.Leaf.enc l), .bool d] w0 (fun r_ w => ∃ y1 : SX.Sl, r_ = (.tuple #[(D.Mem.enc (D.markM m l d) y1), (D.Leaf.enc (D.markL m l d))]) ∧ (D.memF y1 ((D.markM m l d).f)).P w no) := by
 refine SX.enterN (args := [(D.Mem.enc m s1), (D.Leaf.enc l), .bool d]) (hno := hno) 48 Tryz.func184 rfl kr fun ac A H => ?_
 have H := H.known (D.memF s1 m.f) hs1
 obtain ⟨ll, hll, hmo⟩ := hs1
 have hgl := D.get_lt (D.wordN m l.at_)
 refine XS (XR (Xb [0, 0, 0, 0] A H fun ac w A H => XD (XT (XS (XR (Xb [0, 0, 1] A H fun ac w A H => Xc A H (Word_calls m l.at_ s1 w H.nos_lt (H.fact' 0 (D.memF s1 m.f) kr) ko) fun ac w A H => Xc A H (PGet_calls (D.wordN m l.at_) w (D.wordN_lt hmo _)) fun ac w A H => Xb [0, 4] A H fun ac w A H => XD (XT (XS (XR (Xb [0, 4, 0] A H fun ac w A H => ?_))))))))))
 refine Xs ((D.Pte.get (D.wordN m l.at_)).d) (fun h1 => ?_) fun h1 => ?_
 ·
  have A := A.rb 20 h1
  refine Xb [0, 0, 0, 4, 0, 4] A H fun ac w A H => XD (XT (XS (SX.drawn 10 [4] kr A H fun w H => SX.takes [4] [(0, none), (1, some 0), (2, none), (3, some 0), (4, none), (5, none)] A H kr kd kr kr kr (Or.inl kr) fun ac A => SX.act 6 1 [4] A H kr kr kr (Or.inl kr) fun ac w A H => SX.takes [4] [(7, none), (8, none)] A H kr kd kr kr kr (Or.inl kr) fun ac A => SX.act 9 1 [4] A H kr kr kr (Or.inl kr) fun ac w A H => ?_)))
  refine SX.doneD kr ?_ _
  refine XT (XS (XR (Xb [4] A H fun ac w A H => Xc A H (Put_calls (⟨(D.Pte.get (D.wordN m l.at_)).v, (D.Pte.get (D.wordN m l.at_)).r, (D.Pte.get (D.wordN m l.at_)).w, (D.Pte.get (D.wordN m l.at_)).x, (D.Pte.get (D.wordN m l.at_)).u, (D.Pte.get (D.wordN m l.at_)).g, true, true, (D.Pte.get (D.wordN m l.at_)).rsw, (D.Pte.get (D.wordN m l.at_)).ppn, (D.Pte.get (D.wordN m l.at_)).high⟩ : D.Pte) w (hgl.rsw) (hgl.ppn) (hgl.high)) fun ac w A H => Xb [0, 0, 0, 0, 0] A H fun ac w A H => XD (XT (XS (XR (Xb [0, 0, 1, 0] A H fun ac w A H => SX.call A H (Store_calls m l.at_ 8 (if (⟨(D.Pte.get (D.wordN m l.at_)).v, (D.Pte.get (D.wordN m l.at_)).r, (D.Pte.get (D.wordN m l.at_)).w, (D.Pte.get (D.wordN m l.at_)).x, (D.Pte.get (D.wordN m l.at_)).u, (D.Pte.get (D.wordN m l.at_)).g, true, true, (D.Pte.get (D.wordN m l.at_)).rsw, (D.Pte.get (D.wordN m l.at_)).ppn, (D.Pte.get (D.wordN m l.at_)).high⟩ : D.Pte).may then (⟨(D.Pte.get (D.wordN m l.at_)).v, (D.Pte.get (D.wordN m l.at_)).r, (D.Pte.get (D.wordN m l.at_)).w, (D.Pte.get (D.wordN m l.at_)).x, (D.Pte.get (D.wordN m l.at_)).u, (D.Pte.get (D.wordN m l.at_)).g, true, true, (D.Pte.get (D.wordN m l.at_)).rsw, (D.Pte.get (D.wordN m l.at_)).ppn, (D.Pte.get (D.wordN m l.at_)).high⟩ : D.Pte).put else 0) s1 w H.nos_lt (H.fact' 0 (D.memF s1 m.f) kr) ko (by first | assumption | omega)) kr kr ?_)))))))
  rintro _ ac w ⟨z2, rfl, hz2⟩ A H
  have H := H.learn (D.memF z2 ((D.storeM m l.at_ 8 (if (⟨(D.Pte.get (D.wordN m l.at_)).v, (D.Pte.get (D.wordN m l.at_)).r, (D.Pte.get (D.wordN m l.at_)).w, (D.Pte.get (D.wordN m l.at_)).x, (D.Pte.get (D.wordN m l.at_)).u, (D.Pte.get (D.wordN m l.at_)).g, true, true, (D.Pte.get (D.wordN m l.at_)).rsw, (D.Pte.get (D.wordN m l.at_)).ppn, (D.Pte.get (D.wordN m l.at_)).high⟩ : D.Pte).may then (⟨(D.Pte.get (D.wordN m l.at_)).v, (D.Pte.get (D.wordN m l.at_)).r, (D.Pte.get (D.wordN m l.at_)).w, (D.Pte.get (D.wordN m l.at_)).x, (D.Pte.get (D.wordN m l.at_)).u, (D.Pte.get (D.wordN m l.at_)).g, true, true, (D.Pte.get (D.wordN m l.at_)).rsw, (D.Pte.get (D.wordN m l.at_)).ppn, (D.Pte.get (D.wordN m l.at_)).high⟩ : D.Pte).put else 0)).f)) hz2
  refine Xb [0, 0, 0, 0, 5, 0] A H fun ac w A H => XD (XT (XS (SX.drawn 4 [1, 5] kr A H fun w H => SX.takes [1, 5] [(0, some 1), (1, some 0)] A H kr kd kr kr kr (Or.inl kr) fun ac A => SX.act 2 2 [1, 5] A H kr kr kr (Or.inl kr) fun ac w A H => SX.act 3 3 [1, 5] A H kr kr kr (Or.inl kr) fun ac w A H => ?_)))
  refine SX.doneD kr ?_ _
  refine XT (XW (Xr [2, 3] ((.tuple #[(D.Mem.enc (D.storeM m l.at_ 8 (if (⟨(D.Pte.get (D.wordN m l.at_)).v, (D.Pte.get (D.wordN m l.at_)).r, (D.Pte.get (D.wordN m l.at_)).w, (D.Pte.get (D.wordN m l.at_)).x, (D.Pte.get (D.wordN m l.at_)).u, (D.Pte.get (D.wordN m l.at_)).g, true, true, (D.Pte.get (D.wordN m l.at_)).rsw, (D.Pte.get (D.wordN m l.at_)).ppn, (D.Pte.get (D.wordN m l.at_)).high⟩ : D.Pte).may then (⟨(D.Pte.get (D.wordN m l.at_)).v, (D.Pte.get (D.wordN m l.at_)).r, (D.Pte.get (D.wordN m l.at_)).w, (D.Pte.get (D.wordN m l.at_)).x, (D.Pte.get (D.wordN m l.at_)).u, (D.Pte.get (D.wordN m l.at_)).g, true, true, (D.Pte.get (D.wordN m l.at_)).rsw, (D.Pte.get (D.wordN m l.at_)).ppn, (D.Pte.get (D.wordN m l.at_)).high⟩ : D.Pte).put else 0)) z2), (D.Leaf.enc (⟨l.level, l.at_, (⟨l.pte.v, l.pte.r, l.pte.w, l.pte.x, l.pte.u, l.pte.g, true, true, l.pte.rsw, l.pte.ppn, l.pte.high⟩ : D.Pte)⟩ : D.Leaf))])) A H ?_))
  refine ⟨z2, ?_, (by simp only [D.markM, D.markP, h1, Bool.true_or, Bool.false_or]; exact (H.out 0 (D.memF z2 ((D.storeM m l.at_ 8 (if (⟨(D.Pte.get (D.wordN m l.at_)).v, (D.Pte.get (D.wordN m l.at_)).r, (D.Pte.get (D.wordN m l.at_)).w, (D.Pte.get (D.wordN m l.at_)).x, (D.Pte.get (D.wordN m l.at_)).u, (D.Pte.get (D.wordN m l.at_)).g, true, true, (D.Pte.get (D.wordN m l.at_)).rsw, (D.Pte.get (D.wordN m l.at_)).ppn, (D.Pte.get (D.wordN m l.at_)).high⟩ : D.Pte).may then (⟨(D.Pte.get (D.wordN m l.at_)).v, (D.Pte.get (D.wordN m l.at_)).r, (D.Pte.get (D.wordN m l.at_)).w, (D.Pte.get (D.wordN m l.at_)).x, (D.Pte.get (D.wordN m l.at_)).u, (D.Pte.get (D.wordN m l.at_)).g, true, true, (D.Pte.get (D.wordN m l.at_)).rsw, (D.Pte.get (D.wordN m l.at_)).ppn, (D.Pte.get (D.wordN m l.at_)).high⟩ : D.Pte).put else 0)).f)) kr))⟩
  simp only [D.markM, D.markL, D.markP, h1, Bool.true_or, Bool.false_or] <;> rfl
 ·
  have A := A.rb 20 h1
  refine Xb [0, 0, 0, 4, 0, 4] A H fun ac w A H => XD (XT (XS (SX.drawn 10 [4] kr A H fun w H => SX.takes [4] [(0, none), (1, some 0), (2, none), (3, some 0), (4, none), (5, none)] A H kr kd kr kr kr (Or.inl kr) fun ac A => SX.act 6 1 [4] A H kr kr kr (Or.inl kr) fun ac w A H => SX.takes [4] [(7, none), (8, none)] A H kr kd kr kr kr (Or.inl kr) fun ac A => SX.act 9 1 [4] A H kr kr kr (Or.inl kr) fun ac w A H => ?_)))
  refine SX.doneD kr ?_ _
  refine XT (XS (XR (Xb [4] A H fun ac w A H => Xc A H (Put_calls (⟨(D.Pte.get (D.wordN m l.at_)).v, (D.Pte.get (D.wordN m l.at_)).r, (D.Pte.get (D.wordN m l.at_)).w, (D.Pte.get (D.wordN m l.at_)).x, (D.Pte.get (D.wordN m l.at_)).u, (D.Pte.get (D.wordN m l.at_)).g, true, d, (D.Pte.get (D.wordN m l.at_)).rsw, (D.Pte.get (D.wordN m l.at_)).ppn, (D.Pte.get (D.wordN m l.at_)).high⟩ : D.Pte) w (hgl.rsw) (hgl.ppn) (hgl.high)) fun ac w A H => Xb [0, 0, 0, 0, 0] A H fun ac w A H => XD (XT (XS (XR (Xb [0, 0, 1, 0] A H fun ac w A H => SX.call A H (Store_calls m l.at_ 8 (if (⟨(D.Pte.get (D.wordN m l.at_)).v, (D.Pte.get (D.wordN m l.at_)).r, (D.Pte.get (D.wordN m l.at_)).w, (D.Pte.get (D.wordN m l.at_)).x, (D.Pte.get (D.wordN m l.at_)).u, (D.Pte.get (D.wordN m l.at_)).g, true, d, (D.Pte.get (D.wordN m l.at_)).rsw, (D.Pte.get (D.wordN m l.at_)).ppn, (D.Pte.get (D.wordN m l.at_)).high⟩ : D.Pte).may then (⟨(D.Pte.get (D.wordN m l.at_)).v, (D.Pte.get (D.wordN m l.at_)).r, (D.Pte.get (D.wordN m l.at_)).w, (D.Pte.get (D.wordN m l.at_)).x, (D.Pte.get (D.wordN m l.at_)).u, (D.Pte.get (D.wordN m l.at_)).g, true, d, (D.Pte.get (D.wordN m l.at_)).rsw, (D.Pte.get (D.wordN m l.at_)).ppn, (D.Pte.get (D.wordN m l.at_)).high⟩ : D.Pte).put else 0) s1 w H.nos_lt (H.fact' 0 (D.memF s1 m.f) kr) ko (by first | assumption | omega)) kr kr ?_)))))))
  rintro _ ac w ⟨z3, rfl, hz3⟩ A H
  have H := H.learn (D.memF z3 ((D.storeM m l.at_ 8 (if (⟨(D.Pte.get (D.wordN m l.at_)).v, (D.Pte.get (D.wordN m l.at_)).r, (D.Pte.get (D.wordN m l.at_)).w, (D.Pte.get (D.wordN m l.at_)).x, (D.Pte.get (D.wordN m l.at_)).u, (D.Pte.get (D.wordN m l.at_)).g, true, d, (D.Pte.get (D.wordN m l.at_)).rsw, (D.Pte.get (D.wordN m l.at_)).ppn, (D.Pte.get (D.wordN m l.at_)).high⟩ : D.Pte).may then (⟨(D.Pte.get (D.wordN m l.at_)).v, (D.Pte.get (D.wordN m l.at_)).r, (D.Pte.get (D.wordN m l.at_)).w, (D.Pte.get (D.wordN m l.at_)).x, (D.Pte.get (D.wordN m l.at_)).u, (D.Pte.get (D.wordN m l.at_)).g, true, d, (D.Pte.get (D.wordN m l.at_)).rsw, (D.Pte.get (D.wordN m l.at_)).ppn, (D.Pte.get (D.wordN m l.at_)).high⟩ : D.Pte).put else 0)).f)) hz3
  refine Xb [0, 0, 0, 0, 5, 0] A H fun ac w A H => XD (XT (XS (SX.drawn 4 [1, 5] kr A H fun w H => SX.takes [1, 5] [(0, some 1), (1, some 0)] A H kr kd kr kr kr (Or.inl kr) fun ac A => SX.act 2 2 [1, 5] A H kr kr kr (Or.inl kr) fun ac w A H => SX.act 3 3 [1, 5] A H kr kr kr (Or.inl kr) fun ac w A H => ?_)))
  refine SX.doneD kr ?_ _
  refine XT (XW (Xr [2, 3] ((.tuple #[(D.Mem.enc (D.storeM m l.at_ 8 (if (⟨(D.Pte.get (D.wordN m l.at_)).v, (D.Pte.get (D.wordN m l.at_)).r, (D.Pte.get (D.wordN m l.at_)).w, (D.Pte.get (D.wordN m l.at_)).x, (D.Pte.get (D.wordN m l.at_)).u, (D.Pte.get (D.wordN m l.at_)).g, true, d, (D.Pte.get (D.wordN m l.at_)).rsw, (D.Pte.get (D.wordN m l.at_)).ppn, (D.Pte.get (D.wordN m l.at_)).high⟩ : D.Pte).may then (⟨(D.Pte.get (D.wordN m l.at_)).v, (D.Pte.get (D.wordN m l.at_)).r, (D.Pte.get (D.wordN m l.at_)).w, (D.Pte.get (D.wordN m l.at_)).x, (D.Pte.get (D.wordN m l.at_)).u, (D.Pte.get (D.wordN m l.at_)).g, true, d, (D.Pte.get (D.wordN m l.at_)).rsw, (D.Pte.get (D.wordN m l.at_)).ppn, (D.Pte.get (D.wordN m l.at_)).high⟩ : D.Pte).put else 0)) z3), (D.Leaf.enc (⟨l.level, l.at_, (⟨l.pte.v, l.pte.r, l.pte.w, l.pte.x, l.pte.u, l.pte.g, true, d, l.pte.rsw, l.pte.ppn, l.pte.high⟩ : D.Pte)⟩ : D.Leaf))])) A H ?_))
  refine ⟨z3, ?_, (by simp only [D.markM, D.markP, h1, Bool.true_or, Bool.false_or]; exact (H.out 0 (D.memF z3 ((D.storeM m l.at_ 8 (if (⟨(D.Pte.get (D.wordN m l.at_)).v, (D.Pte.get (D.wordN m l.at_)).r, (D.Pte.get (D.wordN m l.at_)).w, (D.Pte.get (D.wordN m l.at_)).x, (D.Pte.get (D.wordN m l.at_)).u, (D.Pte.get (D.wordN m l.at_)).g, true, d, (D.Pte.get (D.wordN m l.at_)).rsw, (D.Pte.get (D.wordN m l.at_)).ppn, (D.Pte.get (D.wordN m l.at_)).high⟩ : D.Pte).may then (⟨(D.Pte.get (D.wordN m l.at_)).v, (D.Pte.get (D.wordN m l.at_)).r, (D.Pte.get (D.wordN m l.at_)).w, (D.Pte.get (D.wordN m l.at_)).x, (D.Pte.get (D.wordN m l.at_)).u, (D.Pte.get (D.wordN m l.at_)).g, true, d, (D.Pte.get (D.wordN m l.at_)).rsw, (D.Pte.get (D.wordN m l.at_)).ppn, (D.Pte.get (D.wordN m l.at_)).high⟩ : D.Pte).put else 0)).f)) kr))⟩
  simp only [D.markM, D.markL, D.markP, h1, Bool.true_or, Bool.false_or] <;> rfl
end Go.Proofs.YtfkmcdkncmapmaaGreatDoor
set_option linter.unusedVariables false
set_option linter.unusedSimpArgs false
set_option maxRecDepth 100000
set_option maxHeartbeats 1000000
namespace Go.Proofs.YtfkmcdkncmapmaaGreatDoor
open Go Go.RowKit
namespace D
theorem atN_ppn (m : Mem) (t i : Nat) : (atN m t i).ppn < 17592186044416 := getN_lt2 _ 10 44 kc
def reach (m : Mem) (addr want : Nat) : Nat → Nat → Spot
 | 0, t => ⟨t, 0, atN m t (indexN addr 0)⟩
 | l + 1, t => if want < l + 1 ∧ (atN m t (indexN addr ((l + 1 : Nat) : Int))).links ((l + 1 : Nat) : Int) = true then reach m addr want l (atN m t (indexN addr ((l + 1 : Nat) : Int))).ppn else ⟨t, ((l + 1 : Nat) : Int), atN m t (indexN addr ((l + 1 : Nat) : Int))⟩
theorem reach_stop {m : Mem} {addr want l t : Nat} (h : ¬ (want < l ∧ (atN m t (indexN addr (l : Int))).links (l : Int) = true)) : reach m addr want l t = ⟨t, (l : Int), atN m t (indexN addr (l : Int))⟩ := by
 cases l with
 | zero => rfl
 | succ l => rw [reach, if_neg h]
theorem reach_down {m : Mem} {addr want l t : Nat} (h1 : want < l) (h2 : (atN m t (indexN addr (l : Int))).links (l : Int) = true) : reach m addr want l t = reach m addr want (l - 1) (atN m t (indexN addr (l : Int))).ppn := by
 cases l with
 | zero => omega
 | succ l => rw [reach, if_pos ⟨h1, h2⟩]; rfl
end D
theorem Reach_calls (m : D.Mem) (top : Nat) (level : Nat) (addr : Nat) (want : Nat)  {no : List Nat} (s1 : SX.Sl) (w0 : World) (hno : ∀ b ∈ no, b < w0.heap.size) (hs1 : (D.memF s1 m.f).P w0 no) (hL : Ld w0) (ht : top < 4503599627370495) (hl : level ≤ 2) (hw : want ≤ 2) (haddr : addr < 18446744073709551616) : SX.Gives Tryz.prog 45 #[(D.Mem.enc m s1), .int .u64 (((top : Nat) : Int)), .int .i64 (((level : Nat) : Int)), .int .u64 (((addr : Nat) : Int)), .int .i64 (((want : Nat) : Int))] w0 ((D.Spot.enc (D.reach m addr want level top))) := by
 refine SX.enterN (args := [(D.Mem.enc m s1), .int .u64 (((top : Nat) : Int)), .int .i64 (((level : Nat) : Int)), .int .u64 (((addr : Nat) : Int)), .int .i64 (((want : Nat) : Int))]) (hno := hno) 44 Tryz.func45 rfl kr fun ac A H => ?_
 have H := H.known (D.memF s1 m.f) hs1
 refine XS (XR (Xb [0, 0] A H fun ac w A H => XD (XT ?_)))
 refine SX.scopeG (σ := Nat × Nat × D.Pte) 0 (fun g ac w => match g with | (t, l, q) => ∃ B0 B1 B2 : Nat, (l ≤ 2 ∧ t < 4503599627370495 ∧ D.reach m addr want level top = D.reach m addr want l t) ∧ SX.Agrees 44 ac [(0, (D.Mem.enc m s1)), (1, .int .u64 (((top : Nat) : Int))), (2, .int .i64 (((level : Nat) : Int))), (3, .int .u64 (((addr : Nat) : Int))), (4, .int .i64 (((want : Nat) : Int))), (5, .pointer (some ⟨B0, 0, none⟩)), (10, .pointer (some ⟨B1, 0, none⟩)), (11, .pointer (some ⟨B2, 0, none⟩))] ∧ SX.Own w0 w [(B0, .cells (D.Mem.cs m s1) 30 (0, 0)), (B1, .cells (D.Spot.cs (⟨0, 0, (⟨false, false, false, false, false, false, false, false, 0, 0, 0⟩ : D.Pte)⟩ : D.Spot)) 109 (0, 0)), (B2, .cells (D.Spot.cs (⟨t, ((l : Nat) : Int), q⟩ : D.Spot)) 109 (0, 0))] ⟨[(D.memF s1 m.f)], (SX.roOf H).fb, (SX.roOf H).no⟩) (fun g => match g with | (t, l, q) => l) kr ?_ ?_
 ·
  refine XS (XR (Xb [0, 0, 0, 0, 2] A H fun ac w A H => XD (XT (XS (wp_label (XT (XS (SX.drawn 9 [0, 2] kr A H fun w H => SX.takes [0, 2] [(0, some 0), (1, none), (2, some 1), (3, none), (4, none), (5, some 1)] A H kr kd kr kr kr (Or.inl kr) fun ac A => SX.callGD 6 [0, 2] A H (Index_calls addr ((level : Nat) : Int) w ko ko) kr kr kr kr (Or.inl kr) fun ac w A H => SX.callGD 7 [0, 2] A H (at_calls m top (indexN addr ((level : Nat) : Int)) s1 w H.nos_lt (H.fact' 0 (D.memF s1 m.f) kr) ko (indexN_lt _ _)) kr kr kr kr (Or.inl kr) fun ac w A H => SX.takes [0, 2] [(8, none)] A H kr kd kr kr kr (Or.inl kr) fun ac A => SX.act 9 2 [0, 2] A H kr kr kr (Or.inr kr) fun ac w A H => ?_))))))))
  refine SX.doneD kr ?_ _
  refine XT (XS (XS (XR (Xb [0, 2, 0, 0, 0] A H fun ac w A H => ?_))))
  refine Xs (decide (((level : Nat) : Int) > ((want : Nat) : Int))) (fun h1 => ?_) fun h1 => ?_
  ·
   have A := A.rb 28 h1
   have h1p : ((level : Nat) : Int) > ((want : Nat) : Int) := kp h1
   refine Xb [0, 2, 0, 2] A H fun ac w A H => Xc A H (links_calls (D.atN m top (indexN addr ((level : Nat) : Int))) ((level : Nat) : Int) w (hL.below H.below) ko) fun ac w A H => Xb [0] A H fun ac w A H => XD (XT ?_)
   refine Xs ((D.atN m top (indexN addr ((level : Nat) : Int))).links ((level : Nat) : Int)) (fun h2 => ?_) fun h2 => ?_
   ·
    have A := A.rb 34 h2
    refine Xt A (XS (XR (Xb [0, 0, 2, 0, 2, 0] A H fun ac w A H => ?_)))
    have A := A.re 40 (.int .i64 (IntKind.i64.wrap (((level : Nat) : Int) - 1))) (.int .i64 ((((level - 1) : Nat) : Int))) kr (SX.i_subN _ 1 ko ko)
    refine Xb [0, 2, 0, 2] A H fun ac w A H => XD (XT (wp_goto (SX.then_g (SX.jump_goto ?_))))
    have hpp := D.atN_ppn m top (indexN addr ((level : Nat) : Int))
    exact ⟨((D.atN m top (indexN addr ((level : Nat) : Int))).ppn, level - 1, (D.atN m top (indexN addr ((level : Nat) : Int)))), ⟨SX.bb H 0, SX.bb H 1, SX.bb H 2, (⟨by omega, by omega, D.reach_down ko h2⟩), A.sub _ kr, (H.pick [0, 1, 2] _ kc kr).ro_pick [0] _ kr⟩⟩
   ·
    have A := A.rb 34 h2
    refine Xf A (XK (XT (XS (XR (Xb [2, 1] A H fun ac w A H => XD (XT (XW (SX.jump_r (Xr [1] ((D.Spot.enc (⟨top, ((level : Nat) : Int), (D.atN m top (indexN addr ((level : Nat) : Int)))⟩ : D.Spot))) A H ?_)))))))))
    have hst : D.reach m addr want level top = ⟨top, ((level : Nat) : Int), D.atN m top (indexN addr ((level : Nat) : Int))⟩ := D.reach_stop (fun hh => absurd hh.2 (by rw [h2]; decide))
    rw [hst] <;> rfl
  ·
   have A := A.rb 28 h1
   have h1p : ¬ (((level : Nat) : Int) > ((want : Nat) : Int)) := kp h1
   refine Xb [0, 0, 0, 0, 0, 0] A H fun ac w A H => XD (XT (Xf A (XK (XT (XS (XR (Xb [2, 1] A H fun ac w A H => XD (XT (XW (SX.jump_r (Xr [1] ((D.Spot.enc (⟨top, ((level : Nat) : Int), (D.atN m top (indexN addr ((level : Nat) : Int)))⟩ : D.Spot))) A H ?_)))))))))))
   have hst : D.reach m addr want level top = ⟨top, ((level : Nat) : Int), D.atN m top (indexN addr ((level : Nat) : Int))⟩ := D.reach_stop (fun hh => by omega)
   rw [hst] <;> rfl
 rintro ⟨t, l, q⟩ ac w ⟨B0, B1, B2, hI, A, H⟩
 refine XS (XK (XT (XS (SX.drawn 9 [0, 2] kr A H fun w H => SX.takes [0, 2] [(0, some 0), (1, none), (2, some 1), (3, none), (4, none), (5, some 1)] A H kr kd kr kr kr (Or.inl kr) fun ac A => SX.callGD 6 [0, 2] A H (Index_calls addr ((l : Nat) : Int) w ko ko) kr kr kr kr (Or.inl kr) fun ac w A H => SX.callGD 7 [0, 2] A H (at_calls m t (indexN addr ((l : Nat) : Int)) s1 w H.nos_lt (H.fact' 0 (D.memF s1 m.f) kr) ko (indexN_lt _ _)) kr kr kr kr (Or.inl kr) fun ac w A H => SX.takes [0, 2] [(8, none)] A H kr kd kr kr kr (Or.inl kr) fun ac A => SX.act 9 2 [0, 2] A H kr kr kr (Or.inr kr) fun ac w A H => ?_))))
 refine SX.doneD kr ?_ _
 refine XT (XS (XS (XR (Xb [0, 2, 0, 0, 0] A H fun ac w A H => ?_))))
 refine Xs (decide (((l : Nat) : Int) > ((want : Nat) : Int))) (fun h3 => ?_) fun h3 => ?_
 ·
  have A := A.rb 28 h3
  have h3p : ((l : Nat) : Int) > ((want : Nat) : Int) := kp h3
  refine Xb [0, 2, 0, 2] A H fun ac w A H => Xc A H (links_calls (D.atN m t (indexN addr ((l : Nat) : Int))) ((l : Nat) : Int) w (hL.below H.below) ko) fun ac w A H => Xb [0] A H fun ac w A H => XD (XT ?_)
  refine Xs ((D.atN m t (indexN addr ((l : Nat) : Int))).links ((l : Nat) : Int)) (fun h4 => ?_) fun h4 => ?_
  ·
   have A := A.rb 34 h4
   refine Xt A (XS (XR (Xb [0, 0, 2, 0, 2, 0] A H fun ac w A H => ?_)))
   have A := A.re 40 (.int .i64 (IntKind.i64.wrap (((l : Nat) : Int) - 1))) (.int .i64 ((((l - 1) : Nat) : Int))) kr (SX.i_subN _ 1 ko ko)
   refine Xb [0, 2, 0, 2] A H fun ac w A H => XD (XT (wp_goto (SX.then_g (SX.jump_goto ?_))))
   obtain ⟨hI1, hI2, hI3⟩ := hI
   have hpp := D.atN_ppn m t (indexN addr ((l : Nat) : Int))
   exact ⟨((D.atN m t (indexN addr ((l : Nat) : Int))).ppn, l - 1, (D.atN m t (indexN addr ((l : Nat) : Int)))), ⟨SX.bb H 0, SX.bb H 1, SX.bb H 2, (⟨by omega, by omega, hI3.trans (D.reach_down ko h4)⟩), A.sub _ kr, (H.pick [0, 1, 2] _ kc kr).ro_pick [0] _ kr⟩, by show l - 1 < l; omega⟩
  ·
   have A := A.rb 34 h4
   refine Xf A (XK (XT (XS (XR (Xb [2, 1] A H fun ac w A H => XD (XT (XW (SX.jump_r (Xr [1] ((D.Spot.enc (⟨t, ((l : Nat) : Int), (D.atN m t (indexN addr ((l : Nat) : Int)))⟩ : D.Spot))) A H ?_)))))))))
   have hst : D.reach m addr want l t = ⟨t, ((l : Nat) : Int), D.atN m t (indexN addr ((l : Nat) : Int))⟩ := D.reach_stop (fun hh => absurd hh.2 (by rw [h4]; decide))
   rw [hI.2.2, hst] <;> rfl
 ·
  have A := A.rb 28 h3
  have h3p : ¬ (((l : Nat) : Int) > ((want : Nat) : Int)) := kp h3
  refine Xb [0, 0, 0, 0, 0, 0] A H fun ac w A H => XD (XT (Xf A (XK (XT (XS (XR (Xb [2, 1] A H fun ac w A H => XD (XT (XW (SX.jump_r (Xr [1] ((D.Spot.enc (⟨t, ((l : Nat) : Int), (D.atN m t (indexN addr ((l : Nat) : Int)))⟩ : D.Spot))) A H ?_)))))))))))
  have hst : D.reach m addr want l t = ⟨t, ((l : Nat) : Int), D.atN m t (indexN addr ((l : Nat) : Int))⟩ := D.reach_stop (fun hh => by omega)
  rw [hI.2.2, hst] <;> rfl
end Go.Proofs.YtfkmcdkncmapmaaGreatDoor
