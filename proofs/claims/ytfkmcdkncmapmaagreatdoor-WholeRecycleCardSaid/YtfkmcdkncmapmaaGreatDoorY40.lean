/- A run of operations, each by what it is known to do. -/
import Derived.Test.YtfkmcdkncmapmaaGreatDoorY02
import Derived.Test.YtfkmcdkncmapmaaGreatDoorY39
import Derived.Test.YtfkmcdkncmapmaaGreatDoorY37
import Derived.Test.YtfkmcdkncmapmaaGreatDoorProg
set_option linter.unusedVariables false
set_option linter.unusedSimpArgs false
set_option maxRecDepth 100000
set_option maxHeartbeats 400000
namespace Go.Proofs.YtfkmcdkncmapmaaGreatDoor
open Go Go.RowKit
namespace D
def ansF (s : SX.Sl) (l : List Answer) : SX.Fact := SX.slF s 6 (l.flatMap Answer.cells)
theorem ans_len : ∀ l : List Answer, (l.flatMap Answer.cells).length = l.length * 6
 | [] => rfl
 | x :: l => by rw [List.flatMap_cons, List.length_append, ans_len l, List.length_cons]; show 6 + _ = _; omega
theorem ans_one (l : List Answer) : ∀ u ∈ l.flatMap Answer.cells, u.oneCell' = true := fun u hu => by
 obtain ⟨x, _, hx⟩ := List.mem_flatMap.1 hu
 exact List.all_eq_true.1 (show (Answer.cells x).all (fun v => v.oneCell') = true from rfl) u hx
end D
/-- What one step does. -/
def StepC (k : D.Kernel) (o : D.Op) (k2 : D.Kernel) (a : D.Answer) : Prop := ∀ {no : List Nat} (s1 s2 s3 s4 : SX.Sl) (w0 : World), (∀ b ∈ no, b < w0.heap.size) → (D.memF s1 k.mem.f).P w0 no → (D.tlbF s2 k.hart.tlb.sets).P w0 no → (D.spsF s3 k.spaces).P w0 no → (D.fnsF s4 k.fences).P w0 no → Ld w0 →
 SX.Rets Tryz.prog 10 #[D.Kernel.enc k s1 s2 s3 s4, D.Op.enc o] w0 (fun r_ w => ∃ y1 y2 y3 y4 : SX.Sl, r_ = (.tuple #[D.Kernel.enc k2 y1 y2 y3 y4, D.Answer.enc a]) ∧ (D.memF y1 k2.mem.f).P w no ∧ (D.tlbF y2 k2.hart.tlb.sets).P w no ∧ (D.spsF y3 k2.spaces).P w no ∧ (D.fnsF y4 k2.fences).P w no)
theorem Run_calls (l : List D.Op) (ks : Nat → D.Kernel) (as_ : Nat → D.Answer) (hst : ∀ i o, l[i]? = some o → StepC (ks i) o (ks (i + 1)) (as_ i)) {no : List Nat} (s1 s2 s3 s4 s5 : SX.Sl) (w0 : World) (hno : ∀ b ∈ no, b < w0.heap.size)
 (hs1 : (D.memF s1 (ks 0).mem.f).P w0 no) (hs2 : (D.tlbF s2 (ks 0).hart.tlb.sets).P w0 no) (hs3 : (D.spsF s3 (ks 0).spaces).P w0 no) (hs4 : (D.fnsF s4 (ks 0).fences).P w0 no) (hs5 : (D.opsF s5 l).P w0 no) (hL : Ld w0) (hl : l.length < 100000) :
 SX.Rets Tryz.prog 58 #[D.Kernel.enc (ks 0) s1 s2 s3 s4, .slice s5.a s5.n s5.c] w0 (fun r_ w => ∃ y1 y2 y3 y4 y5 : SX.Sl, r_ = (.tuple #[D.Kernel.enc (ks l.length) y1 y2 y3 y4, .slice y5.a y5.n y5.c]) ∧ (D.memF y1 (ks l.length).mem.f).P w no ∧ (D.tlbF y2 (ks l.length).hart.tlb.sets).P w no ∧ (D.spsF y3 (ks l.length).spaces).P w no ∧ (D.fnsF y4 (ks l.length).fences).P w no ∧ (D.ansF y5 ((List.range l.length).map as_)).P w no) := by
 refine SX.enterN (args := [D.Kernel.enc (ks 0) s1 s2 s3 s4, .slice s5.a s5.n s5.c]) (hno := hno) 31 Tryz.func58 rfl kr fun ac A H => ?_
 have ex : ∀ F : SX.Fact, F.P w0 no → (SX.awayF (SX.rowNo ⟨none, 0, 0⟩) F).P w0 no := fun F h => by
  show F.P w0 (no ++ [])
  rw [List.append_nil]; exact h
 have H := H.known (SX.rowF w0.heap.size ⟨none, 0, 0⟩ 62 6 []) (.inl ⟨rfl, rfl⟩)
 have H := H.known _ (ex _ hs5)
 have H := H.known _ (ex _ hs4)
 have H := H.known _ (ex _ hs3)
 have H := H.known _ (ex _ hs2)
 have H := H.known _ (ex _ hs1)
 refine XS (XR (Xb [0, 0, 0] A H fun ac w A H => XD (XT (XS (XR (Xb [0] A H fun ac w A H => XD (XT (XS (XS (XR (Xb [0, 0] A H fun ac w A H => ?_)))))))))))
 have hn5 : s5.n = l.length := SX.SlAt.count (f := D.Op.cells) (sz := 12) (fun _ => rfl) kc (show SX.SlAt w0 no s5 12 (l.flatMap D.Op.cells) from hs5)
 have A := A.re 12 (.int .i64 ((s5.n : Nat) : Int)) (.int .i64 ((l.length : Nat) : Int)) kr (by rw [hn5])
 refine Xb [0] A H fun ac w A H => XD (XT (XB ?_))
 refine SX.loopG (σ := Nat) (fun i ac w => i ≤ l.length ∧ ∃ (B2 B4 : Nat) (s z1 z2 z3 z4 : SX.Sl), s.n = i ∧ SX.Agrees 31 ac [(2, .pointer (some ⟨B2, 0, none⟩)), (4, .pointer (some ⟨B4, 0, none⟩)), (6, .slice s.a s.n s.c), (11, .slice s5.a s5.n s5.c), (12, .int .i64 ((l.length : Nat) : Int)), (13, .int .i64 ((i : Nat) : Int))] ∧ SX.Own w0 w [(B2, .cells (D.Kernel.cs (ks i) z1 z2 z3 z4) 45 (0, 0)), (B4, .cells (D.Kernel.cs (⟨(⟨0, 0, 0, 0⟩ : D.Conf), (⟨0, (fun _ => 0)⟩ : D.Mem), (⟨(⟨[]⟩ : D.Tlb), (⟨0, 0, 0⟩ : D.Satp), 0, false, false, 0⟩ : D.Hart), (⟨0, 0, 0⟩ : D.Pool), (⟨0, 0, 0⟩ : D.Asids), [], 0, 0, []⟩ : D.Kernel) SX.Sl.nil SX.Sl.nil SX.Sl.nil SX.Sl.nil) 45 (0, 0))] ⟨[D.memF z1 (ks i).mem.f, D.tlbF z2 (ks i).hart.tlb.sets, D.spsF z3 (ks i).spaces, D.fnsF z4 (ks i).fences, D.opsF s5 l].map (SX.awayF (SX.rowNo s)) ++ [SX.rowF w0.heap.size s 62 6 (((List.range i).map as_).flatMap D.Answer.cells)], [], no⟩) (fun i => l.length - i) 0 ?_ ?_
 · exact ⟨Nat.zero_le _, SX.bb H 0, SX.bb H 1, ⟨none, 0, 0⟩, s1, s2, s3, s4, rfl, A.sub _ kr, (H.pick [0, 1] _ kc kr).ro_pick [0, 1, 2, 3, 4, 5] _ kr⟩
 · rintro i ac w ⟨hi, B2, B4, s, z1, z2, z3, z4, hsn, A, H⟩
   refine XS (XR (Xb [0] A H fun ac w A H => XD (XT (XS ?_))))
   refine Xs (decide (((i : Nat) : Int) < ((l.length : Nat) : Int))) (fun h1 => ?_) fun h1 => ?_
   · have A := A.re 14 (.bool (decide (((i : Nat) : Int) < ((l.length : Nat) : Int)))) (.bool true) kr (by rw [h1])
     have h1p : i < l.length := by simp only [decide_eq_true_eq] at h1; omega
     refine Xt A (XK (XT (XS (XB (XS (XR ?_))))))
     obtain ⟨o, ho⟩ := SX.get_of_lt (l := l) (i := i) h1p
     have hops : SX.SlAt w _ s5 12 (l.flatMap D.Op.cells) := H.fact' 4 (SX.awayF (SX.rowNo s) (D.opsF s5 l)) kr
     refine SX.given A (SX.run_idx (P := Tryz.prog) hops (T := 55) (E := 68) (k := .i64) (i := i) Tryz.underlying55 kr ko) kr kr fun ac A => SX.given A (SX.run_loadN (P := Tryz.prog) (T := 68) (b := s5.blk) (o := s5.off + i * 12) (D.Op.cells o) kr kr (fun q_ hq_ => SX.SlAt.elem (f := D.Op.cells) (fun _ => rfl) hops ho hq_)) kr kr fun ac A => Xb [0, 2] A H fun ac w A H => XD (XT (XS (XR (Xb [0, 2] A H fun ac w A H => ?_))))
     have hrow : SX.OwnRow w w0.heap.size _ s 62 6 _ := H.fact' 5 (SX.rowF w0.heap.size s 62 6 (((List.range i).map as_).flatMap D.Answer.cells)) kr
     have hnoR : ∀ b ∈ SX.nos H ++ SX.rowNo s, b < w.heap.size := fun b hb => by
      rcases List.mem_append.1 hb with hb | hb
      · exact H.nos_lt b hb
      · rcases hrow with ⟨h, _⟩ | ⟨b', xs, ha, hb', _⟩
        · rw [h] at hb; simp [SX.rowNo] at hb
        · unfold SX.rowNo at hb; rw [ha] at hb
          have e : b = b' := by simpa using hb
          rw [e]; exact SX.getElem?_lt hb'
     refine SX.call A H (hst i o ho (no := SX.nos H ++ SX.rowNo s) z1 z2 z3 z4 w hnoR (H.fact' 0 (SX.awayF (SX.rowNo s) (D.memF z1 (ks i).mem.f)) kr) (H.fact' 1 (SX.awayF (SX.rowNo s) (D.tlbF z2 (ks i).hart.tlb.sets)) kr) (H.fact' 2 (SX.awayF (SX.rowNo s) (D.spsF z3 (ks i).spaces)) kr) (H.fact' 3 (SX.awayF (SX.rowNo s) (D.fnsF z4 (ks i).fences)) kr) (hL.below H.below)) kr kr ?_
     rintro _ ac w ⟨y1, y2, y3, y4, rfl, hy1, hy2, hy3, hy4⟩ A H
     have H := H.learn (SX.awayF (SX.rowNo s) (D.memF y1 (ks (i + 1)).mem.f)) hy1
     have H := H.learn (SX.awayF (SX.rowNo s) (D.tlbF y2 (ks (i + 1)).hart.tlb.sets)) hy2
     have H := H.learn (SX.awayF (SX.rowNo s) (D.spsF y3 (ks (i + 1)).spaces)) hy3
     have H := H.learn (SX.awayF (SX.rowNo s) (D.fnsF y4 (ks (i + 1)).fences)) hy4
     refine Xb [0, 0, 0, 0, 0, 3, 4] A H fun ac w A H => XD (XT (XS (XR (Xb [3, 0] A H fun ac w A H => XD (XT (XR (Xb [0, 4, 0] A H fun ac w A H => ?_)))))))
     obtain ⟨b0, b1, nb, A, H2, hnb⟩ : ∃ b0 b1 nb : Nat, SX.Agrees 31 ac [(2, .pointer (some ⟨b0, 0, none⟩)), (4, .pointer (some ⟨b1, 0, none⟩)), (11, .slice s5.a s5.n s5.c), (12, .int .i64 ((l.length : Nat) : Int)), (13, .int .i64 ((i : Nat) : Int)), (24, .slice s.a s.n s.c), (26, .slice (some ⟨nb, 0, none⟩) 1 1)] ∧ SX.Own w0 w [(b0, .cells (D.Kernel.cs (ks (i + 1)) y1 y2 y3 y4) 45 (0, 0)), (b1, .cells (D.Kernel.cs (⟨(⟨0, 0, 0, 0⟩ : D.Conf), (⟨0, (fun _ => 0)⟩ : D.Mem), (⟨(⟨[]⟩ : D.Tlb), (⟨0, 0, 0⟩ : D.Satp), 0, false, false, 0⟩ : D.Hart), (⟨0, 0, 0⟩ : D.Pool), (⟨0, 0, 0⟩ : D.Asids), [], 0, 0, []⟩ : D.Kernel) SX.Sl.nil SX.Sl.nil SX.Sl.nil SX.Sl.nil) 45 (0, 0))] ⟨[D.memF y1 (ks (i + 1)).mem.f, D.tlbF y2 (ks (i + 1)).hart.tlb.sets, D.spsF y3 (ks (i + 1)).spaces, D.fnsF y4 (ks (i + 1)).fences, D.opsF s5 l].map (SX.awayF (SX.rowNo s)) ++ [SX.rowF w0.heap.size s 62 Tryz.t62.size (((List.range i).map as_).flatMap D.Answer.cells)], [], no⟩ ∧ w.heap[nb]? = some (.cells (D.Answer.cells (as_ i)).toArray 62 (0, 0)) :=
      ⟨SX.bb H 0, SX.bb H 1, SX.bb H 5, A.sub _ kr, (H.pick [0, 1] _ kc kr).ro_pick [3, 2, 1, 0, 8, 9] _ kr, SX.boxHas H 5 (D.Answer.cells (as_ i)).toArray 62 kr kr⟩
     clear H
     have hs6 : SX.SlAt w [] ⟨some ⟨nb, 0, none⟩, 1, 1⟩ 6 (D.Answer.cells (as_ i)) := SX.slAt_own (xs := D.Answer.cells (as_ i)) hnb rfl (Nat.le_refl _) rfl
     have hone : ∀ u ∈ D.Answer.cells (as_ i), u.oneCell' = true := fun u hu => D.ans_one [as_ i] u (by simpa using hu)
     obtain ⟨s', w2, hrun, hn', H3⟩ := SX.append_row (P := Tryz.prog) (t := 82) (tx := 82) (ty := 82) (e := 62) (i := Tryz.t62) (z := (Tryz.t62.zero).getD undef) H2 Tryz.underlying82 kr kr kr kc (hs6.src (e' := 62) Tryz.underlying82 hone) (by
      have e8 : Tryz.t62.bytes = 48 := rfl
      rw [e8, hsn]
      show (i + 1) * _ ≤ _
      omega) rfl
     refine SX.given A hrun kr kr fun ac A => SX.batch [0] A H3 kr kr fun ac w4 A H4 => XD (XN (XT (XR (SX.batch [0] A H4 kr kr fun ac w5 A H5 => ?_))))
     have A := A.re 28 (.int .i64 (IntKind.i64.wrap (((i : Nat) : Int) + 1))) (.int .i64 (((i + 1 : Nat) : Int))) kr (SX.i_addN i 1 ko)
     refine SX.batch [0] A H5 kr kr fun ac w6 A H6 => XD (XT ?_)
     have e : ((List.range (i + 1)).map as_).flatMap D.Answer.cells = ((List.range i).map as_).flatMap D.Answer.cells ++ D.Answer.cells (as_ i) := by rw [List.range_succ, List.map_append, List.flatMap_append]; simp
     refine ⟨i + 1, ⟨by omega, b0, b1, s', y1, y2, y3, y4, by rw [hn', hsn], A.sub _ kr, ?_⟩, by omega⟩
     rw [e]
     exact H6
   · have A := A.re 14 (.bool (decide (((i : Nat) : Int) < ((l.length : Nat) : Int)))) (.bool false) kr (by rw [h1])
     have h1p : ¬ i < l.length := by simp only [decide_eq_false_iff_not] at h1; omega
     have ei : i = l.length := by omega
     refine Xf A (XI (XX (XX (XE (XT (XS (XR (Xb [0, 0, 1, 0] A H fun ac w A H => XD (XT (XW (Xr [1, 0] (.tuple #[D.Kernel.enc (ks i) z1 z2 z3 z4, .slice s.a s.n s.c]) A H ?_)))))))))))
     have away : ∀ (k : Nat) (F : SX.Fact), F.P w (SX.nos H ++ SX.rowNo s) → F.P w no := fun _ F h => F.st w w _ no (fun b o hb ho => ⟨fun hm => hb (List.mem_append_left _ (List.mem_append_right _ hm)), ho⟩) h
     have hrow : SX.OwnRow w w0.heap.size _ s 62 6 _ := H.fact' 5 (SX.rowF w0.heap.size s 62 6 (((List.range i).map as_).flatMap D.Answer.cells)) kr
     refine ⟨z1, z2, z3, z4, s, by rw [ei], ?_, ?_, ?_, ?_, ?_⟩
     · rw [← ei]; exact away 0 _ (H.fact' 0 (SX.awayF (SX.rowNo s) (D.memF z1 (ks i).mem.f)) kr)
     · rw [← ei]; exact away 0 _ (H.fact' 1 (SX.awayF (SX.rowNo s) (D.tlbF z2 (ks i).hart.tlb.sets)) kr)
     · rw [← ei]; exact away 0 _ (H.fact' 2 (SX.awayF (SX.rowNo s) (D.spsF z3 (ks i).spaces)) kr)
     · rw [← ei]; exact away 0 _ (H.fact' 3 (SX.awayF (SX.rowNo s) (D.fnsF z4 (ks i).fences)) kr)
     · rw [← ei]; exact hrow.at_.keep fun b o hb ho => ⟨fun h => hb (List.mem_append_right _ h), ho⟩
end Go.Proofs.YtfkmcdkncmapmaaGreatDoor
set_option linter.unusedVariables false
set_option linter.unusedSimpArgs false
set_option maxRecDepth 100000
set_option maxHeartbeats 2000000
namespace Go.Proofs.YtfkmcdkncmapmaaGreatDoor
open Go Go.RowKit
namespace D
theorem Answer.len (a : Answer) : (Answer.cells a).length = 6 := rfl
theorem opsNil {w : World} {no : List Nat} : (opsF SX.Sl.nil []).P w no := .inl ⟨rfl, rfl⟩
theorem ansNil {w : World} {no : List Nat} : (ansF SX.Sl.nil []).P w no := .inl ⟨rfl, rfl⟩
def awRaw : List Int := [0, 0, 0, 0, 0, 0, 0, 0, 0, 0, 3, 1, 0, 0, 0, 5, 0, 1, 11, 0, 2, 1, 0, 0, 0, 0, 0, 0, 0, 0, 6, 0, 0, 0, 0, 5, 8, 0, 11, 77, 6, 0, 0, 0, 0, 5, 8, 0, 7]
def awO (i : Nat) : Op := ((decodeN awRaw)[i]?).getD ⟨0, 0, 0, 0, 0, ⟨false, false, false, false⟩, 0, 0, 0⟩
def awK : Nat → Kernel
 | 0 => newK ⟨4, 4, 2, 1⟩
 | 1 => (createN (newK ⟨4, 4, 2, 1⟩)).k
 | 2 => ((createN (newK ⟨4, 4, 2, 1⟩)).k.mapO (awO 1)).k
 | 3 => (switchN ((createN (newK ⟨4, 4, 2, 1⟩)).k.mapO (awO 1)).k (awO 2).id).k
 | 4 => (accessK (switchN ((createN (newK ⟨4, 4, 2, 1⟩)).k.mapO (awO 1)).k (awO 2).id).k (awO 3)).k
 | _ => (accessK (accessK (switchN ((createN (newK ⟨4, 4, 2, 1⟩)).k.mapO (awO 1)).k (awO 2).id).k (awO 3)).k (awO 4)).k
def awA : Nat → Answer
 | 0 => Answer.of (createN (awK 0)).err (((createN (awK 0)).id : Nat) : Int)
 | 1 => Answer.of ((awK 1).mapO (awO 1)).err 0
 | 2 => Answer.of (switchN (awK 2) (awO 2).id).err 0
 | 3 => (accessK (awK 3) (awO 3)).a
 | _ => (accessK (awK 4) (awO 4)).a
def awL : List Answer := [awA 0, awA 1, awA 2, awA 3, awA 4]
def Entry.okB (e : Entry) : Bool := !e.valid || ((decide (e.level = 0) || (decide (e.level = 1) || decide (e.level = 2))) && decide (e.ppn < 17592186044416))
def Tlb.okB (t : Tlb) : Bool := decide (t.sets.length ≤ 16) && t.sets.all fun s => s.w0.okB && (s.w1.okB && (s.w2.okB && s.w3.okB))
theorem Entry.ok_lv {e : Entry} (h : e.okB = true) : e.Lv := fun hv => by
 simp [Entry.okB, hv] at h
 exact h.1
theorem Entry.ok_pp {e : Entry} (h : e.okB = true) : e.Pp := fun hv => by
 simp [Entry.okB, hv] at h
 exact h.2
theorem Tlb.ok_ok {t : Tlb} (h : t.okB = true) : t.Ok := by
 simp only [Tlb.okB, Bool.and_eq_true, decide_eq_true_eq, List.all_eq_true] at h
 exact ⟨h.1, fun s hs => ⟨Entry.ok_lv (h.2 s hs).1, Entry.ok_lv (h.2 s hs).2.1, Entry.ok_lv (h.2 s hs).2.2.1, Entry.ok_lv (h.2 s hs).2.2.2⟩⟩
theorem Tlb.ok_pp {t : Tlb} (h : t.okB = true) : t.Pp := by
 simp only [Tlb.okB, Bool.and_eq_true, decide_eq_true_eq, List.all_eq_true] at h
 exact fun s hs => ⟨Entry.ok_pp (h.2 s hs).1, Entry.ok_pp (h.2 s hs).2.1, Entry.ok_pp (h.2 s hs).2.2.1, Entry.ok_pp (h.2 s hs).2.2.2⟩
def Kernel.okB (k : Kernel) : Bool := k.hart.tlb.okB && (decide (k.hart.satp.ppn < 4503599627370495) && (decide (k.hart.satp.asid < 18446744073709551616) && decide (k.mem.size ≤ 1099511627776)))
theorem Kernel.ok_ok {k : Kernel} (h : k.okB = true) : k.Ok := by
 simp only [Kernel.okB, Bool.and_eq_true, decide_eq_true_eq] at h
 exact ⟨⟨h.2.1, h.2.2.1, Tlb.ok_ok h.1, Tlb.ok_pp h.1⟩, h.2.2.2⟩
def Pool.okB (p : Pool) : Bool := decide (p.base ≤ 524288) && (decide (0 ≤ p.many) && (decide (p.many ≤ 64) && decide (p.free < 18446744073709551616)))
theorem Pool.ok_ok {p : Pool} (h : p.okB = true) : p.Ok := by
 simp only [Pool.okB, Bool.and_eq_true, decide_eq_true_eq] at h
 exact ⟨h.1, ⟨h.2.1, h.2.2.1⟩, h.2.2.2⟩
def Asids.okB (p : Asids) : Bool := decide (p.owned < 18446744073709551616) && (decide (0 ≤ p.many) && (decide (p.many ≤ 64) && decide (p.free < 18446744073709551616)))
theorem Asids.ok_ok {p : Asids} (h : p.okB = true) : p.Ok := by
 simp only [Asids.okB, Bool.and_eq_true, decide_eq_true_eq] at h
 exact ⟨⟨h.2.1, h.2.2.1⟩, h.2.2.2, h.1⟩
end D
theorem aw_step : ∀ i o, (D.decodeN D.awRaw)[i]? = some o → StepC (D.awK i) o (D.awK (i + 1)) (D.awA i) := by
 intro i o ho
 have e : o = D.awO i := by rw [D.awO, ho]; rfl
 have hlt : i < 5 := (List.getElem?_eq_some_iff.1 ho).1
 subst e
 clear ho
 match i, hlt with
 | 0, _ => exact fun {no} s1 s2 s3 s4 w hno h1 h2 h3 h4 hL => Step0 (D.awK 0) (D.awO 0) s1 s2 s3 s4 w hno h1 h2 h3 h4 hL (by decide +kernel) (D.Pool.ok_ok (by decide +kernel)) (D.Asids.ok_ok (by decide +kernel)) (by decide +kernel) (D.Tlb.ok_ok (by decide +kernel)) (by decide +kernel) (by decide +kernel)
 | 1, _ => exact fun {no} s1 s2 s3 s4 w hno h1 h2 h3 h4 hL => Step3 (D.awK 1) (D.awO 1) s1 s2 s3 s4 w hno h1 h2 h3 h4 hL (by decide +kernel) (D.Pool.ok_ok (by decide +kernel)) (by decide +kernel) (by decide +kernel) (by decide +kernel) (by decide +kernel) (by decide +kernel) (by decide +kernel) (by decide +kernel)
 | 2, _ => exact fun {no} s1 s2 s3 s4 w hno h1 h2 h3 h4 hL => Step2 (D.awK 2) (D.awO 2) s1 s2 s3 s4 w hno h1 h2 h3 h4 (by decide +kernel)
 | 3, _ => exact fun {no} s1 s2 s3 s4 w hno h1 h2 h3 h4 hL => Step6 (D.awK 3) (D.awO 3) s1 s2 s3 s4 w hno h1 h2 h3 h4 hL (by decide +kernel) (D.Kernel.ok_ok (by decide +kernel)) (by decide +kernel)
 | 4, _ => exact fun {no} s1 s2 s3 s4 w hno h1 h2 h3 h4 hL => Step6 (D.awK 4) (D.awO 4) s1 s2 s3 s4 w hno h1 h2 h3 h4 hL (by decide +kernel) (D.Kernel.ok_ok (by decide +kernel)) (by decide +kernel)
 | n + 5, h => (exfalso; omega)
theorem Run_aw (k : D.Kernel) (l : List D.Op) {no : List Nat} (s1 s2 s3 s4 s5 : SX.Sl) (w0 : World) (hno : ∀ b ∈ no, b < w0.heap.size) (hs1 : (D.memF s1 k.mem.f).P w0 no) (hs2 : (D.tlbF s2 k.hart.tlb.sets).P w0 no) (hs3 : (D.spsF s3 k.spaces).P w0 no) (hs4 : (D.fnsF s4 k.fences).P w0 no) (hs5 : (D.opsF s5 l).P w0 no) (hL : Ld w0) (hk : k = D.awK 0) (hl : l = D.decodeN D.awRaw) :
 SX.Rets Tryz.prog 58 #[D.Kernel.enc k s1 s2 s3 s4, .slice s5.a s5.n s5.c] w0 (fun r_ w => ∃ y1 y2 y3 y4 y5 : SX.Sl, r_ = (.tuple #[D.Kernel.enc (D.awK 5) y1 y2 y3 y4, .slice y5.a y5.n y5.c]) ∧ (D.memF y1 (D.awK 5).mem.f).P w no ∧ (D.tlbF y2 (D.awK 5).hart.tlb.sets).P w no ∧ (D.spsF y3 (D.awK 5).spaces).P w no ∧ (D.fnsF y4 (D.awK 5).fences).P w no ∧ (D.ansF y5 D.awL).P w no) := by
 subst hk hl
 exact Run_calls (D.decodeN D.awRaw) D.awK D.awA aw_step s1 s2 s3 s4 s5 w0 hno hs1 hs2 hs3 hs4 hs5 hL kc
end Go.Proofs.YtfkmcdkncmapmaaGreatDoor
set_option linter.unusedVariables false
set_option linter.unusedSimpArgs false
set_option maxRecDepth 100000
set_option maxHeartbeats 2000000
namespace Go.Proofs.YtfkmcdkncmapmaaGreatDoor
open Go Go.RowKit
theorem Play_aw (c : D.Conf) (raw : List Int)  {no : List Nat} (s1 : SX.Sl) (w0 : World) (hno : ∀ b ∈ no, b < w0.heap.size) (hs1 : (D.isF s1 raw).P w0 no) (hL : Ld w0) (hc : c = ⟨4, 4, 2, 1⟩) (hr : raw = D.awRaw) : SX.Rets Tryz.prog 19 #[(D.Conf.enc c), .slice s1.a s1.n s1.c] w0 (fun r_ w => ∃ y1 y2 y3 y4 y5 : SX.Sl, r_ = (.tuple #[(D.Kernel.enc (D.awK 5) y1 y2 y3 y4), .slice y5.a y5.n y5.c, .int .i64 0]) ∧ (D.memF y1 ((D.awK 5).mem.f)).P w no ∧ (D.tlbF y2 ((D.awK 5).hart.tlb.sets)).P w no ∧ (D.spsF y3 ((D.awK 5).spaces)).P w no ∧ (D.fnsF y4 ((D.awK 5).fences)).P w no ∧ (D.ansF y5 D.awL).P w no) := by
 refine SX.enterN (args := [(D.Conf.enc c), .slice s1.a s1.n s1.c]) (hno := hno) 28 Tryz.func19 rfl kr fun ac A H => ?_
 have H := H.known (D.isF s1 raw) hs1
 have hlen : raw.length = 49 := by rw [hr]; rfl
 have hmay : D.mayN c = true := by rw [hc]; rfl
 refine XS (XR (Xb [0, 0, 0, 0] A H fun ac w A H => XD (XT (XS (XR (Xb [0] A H fun ac w A H => SX.call A H (New_calls c  w H.nos_lt  (hL.below H.below) (by assumption)) kr kr ?_))))))
 rintro _ ac w ⟨z2, z3, z4, z5, rfl, hz2, hz3, hz4, hz5⟩ A H
 have H := H.learn (D.memF z2 ((D.newK c).mem.f)) hz2
 have H := H.learn (D.tlbF z3 ((D.newK c).hart.tlb.sets)) hz3
 have H := H.learn (D.spsF z4 ((D.newK c).spaces)) hz4
 have H := H.learn (D.fnsF z5 ((D.newK c).fences)) hz5
 refine Xb [0, 0, 0, 0, 2, 0] A H fun ac w A H => XD (XT (XS (XS (XR (Xb [0, 0] A H fun ac w A H => XD (XT (Xf A (XK (XT (XS (SX.drawn 7 [2] kr A H fun w H => SX.takes [2] [(0, some 0), (1, none)] A H kr kd kr kr kr (Or.inl kr) fun ac A => SX.callD 2 [2] A H (Decode_calls raw s1 w H.nos_lt (H.fact' 4 (D.isF s1 raw) kr) (hL.below H.below) ko) kr kr kr kr (Or.inl kr) ?_)))))))))))
 rintro _ ac w ⟨z6, rfl, hz6⟩ A H
 have H := H.learn (D.opsF z6 (D.decodeN raw)) hz6
 refine SX.callD 3 [2] A H (Run_aw (D.newK c) (D.decodeN raw) z2 z3 z4 z5 z6 w H.nos_lt (H.fact' 4 (D.memF z2 ((D.newK c).mem.f)) kr) (H.fact' 3 (D.tlbF z3 ((D.newK c).hart.tlb.sets)) kr) (H.fact' 2 (D.spsF z4 ((D.newK c).spaces)) kr) (H.fact' 1 (D.fnsF z5 ((D.newK c).fences)) kr) (H.fact' 0 (D.opsF z6 (D.decodeN raw)) kr) (hL.below H.below) (by rw [hc]; rfl) (by rw [hr])) kr kr kr kr (Or.inl kr) (k := 1) ?_
 rintro _ ac w ⟨z7, z8, z9, z10, z11, rfl, hz7, hz8, hz9, hz10, hz11⟩ A H
 have H := H.learn (D.memF z7 ((D.awK 5).mem.f)) hz7
 have H := H.learn (D.tlbF z8 ((D.awK 5).hart.tlb.sets)) hz8
 have H := H.learn (D.spsF z9 ((D.awK 5).spaces)) hz9
 have H := H.learn (D.fnsF z10 ((D.awK 5).fences)) hz10
 have H := H.learn (D.ansF z11 D.awL) hz11
 refine SX.takes [2] [(4, none), (5, none), (6, none)] A H kr kd kr kr kr (Or.inl kr) (k := 6) fun ac A => SX.act 7 2 [2] A H kr kr kr (Or.inr kr) (k := 6) fun ac w A H => SX.takes [2] [(8, none)] A H kr kd kr kr kr (Or.inr kr) (k := 6) fun ac A => ?_
 refine SX.doneD kr ?_ _
 refine XT (XS (XR (Xb [2, 0, 1, 0, 0] A H fun ac w A H => XD (XT (XW (Xr [1, 0, 0] ((.tuple #[(D.Kernel.enc (D.awK 5) z7 z8 z9 z10), .slice z11.a z11.n z11.c, .int .i64 0])) A H ?_))))))
 refine ⟨z7, z8, z9, z10, z11, ?_, (H.out 4 (D.memF z7 ((D.awK 5).mem.f)) kr), (H.out 3 (D.tlbF z8 ((D.awK 5).hart.tlb.sets)) kr), (H.out 2 (D.spsF z9 ((D.awK 5).spaces)) kr), (H.out 1 (D.fnsF z10 ((D.awK 5).fences)) kr), (H.out 0 (D.ansF z11 D.awL) kr)⟩
 rfl
theorem awake_calls   (w0 : World) (hL : Ld w0) : SX.Gives Tryz.prog 5 #[] w0 (.bool true) := by
 refine SX.enter (args := []) 37 Tryz.func5 rfl kr fun ac A H => XS (XR (Xb [0] A H fun ac w A H => XD (XT (XS (XR (Xb [0, 0] A H fun ac w A H => ?_))))))
 let qs1 := SX.bb H 0
 have H := H.toFront 0 (p := (qs1, .cells #[.int .i64 0, .int .i64 0, .int .i64 0, .int .i64 0, .int .i64 0, .int .i64 0, .int .i64 0, .int .i64 0, .int .i64 0, .int .i64 0, .int .i64 3, .int .i64 1, .int .i64 0, .int .i64 0, .int .i64 0, .int .i64 5, .int .i64 0, .int .i64 1, .int .i64 11, .int .i64 0, .int .i64 2, .int .i64 1, .int .i64 0, .int .i64 0, .int .i64 0, .int .i64 0, .int .i64 0, .int .i64 0, .int .i64 0, .int .i64 0, .int .i64 6, .int .i64 0, .int .i64 0, .int .i64 0, .int .i64 0, .int .i64 5, .int .i64 8, .int .i64 0, .int .i64 11, .int .i64 77, .int .i64 6, .int .i64 0, .int .i64 0, .int .i64 0, .int .i64 0, .int .i64 5, .int .i64 8, .int .i64 0, .int .i64 7] 3 (0, 0))) kr
 have H := H.give (D.isF (⟨some ⟨qs1, 0, none⟩, 49, 49⟩ : SX.Sl) [0, 0, 0, 0, 0, 0, 0, 0, 0, 0, 3, 1, 0, 0, 0, 5, 0, 1, 11, 0, 2, 1, 0, 0, 0, 0, 0, 0, 0, 0, 6, 0, 0, 0, 0, 5, 8, 0, 11, 77, 6, 0, 0, 0, 0, 5, 8, 0, 7]) (by intro no hno hw; exact list_give D.int1_len (n := 49) (c := 49) rfl rfl (Nat.le_refl _) no hno hw)
 refine SX.call A H (Play_aw (⟨4, 4, 2, 1⟩ : D.Conf) ([0, 0, 0, 0, 0, 0, 0, 0, 0, 0, 3, 1, 0, 0, 0, 5, 0, 1, 11, 0, 2, 1, 0, 0, 0, 0, 0, 0, 0, 0, 6, 0, 0, 0, 0, 5, 8, 0, 11, 77, 6, 0, 0, 0, 0, 5, 8, 0, 7]) (⟨some ⟨qs1, 0, none⟩, 49, 49⟩ : SX.Sl) w H.nos_lt (H.fact' 0 (D.isF (⟨some ⟨qs1, 0, none⟩, 49, 49⟩ : SX.Sl) ([0, 0, 0, 0, 0, 0, 0, 0, 0, 0, 3, 1, 0, 0, 0, 5, 0, 1, 11, 0, 2, 1, 0, 0, 0, 0, 0, 0, 0, 0, 6, 0, 0, 0, 0, 5, 8, 0, 11, 77, 6, 0, 0, 0, 0, 5, 8, 0, 7])) kr) (hL.below H.below) (by rfl) (by rfl)) kr kr ?_
 rintro _ ac w ⟨z1, z2, z3, z4, z5, rfl, hz1, hz2, hz3, hz4, hz5⟩ A H
 have H := H.learn (D.memF z1 ((D.awK 5).mem.f)) hz1
 have H := H.learn (D.tlbF z2 ((D.awK 5).hart.tlb.sets)) hz2
 have H := H.learn (D.spsF z3 ((D.awK 5).spaces)) hz3
 have H := H.learn (D.fnsF z4 ((D.awK 5).fences)) hz4
 have H := H.learn (D.ansF z5 D.awL) hz5
 refine Xb [0, 0, 0, 0, 0, 0, 0, 0] A H fun ac w A H => XD (XT (XS (XR (Xb [0, 0, 0, 0, 0] A H fun ac w A H => ?_))))
 have A := A.re 15 (.int .i64 (((z5.n : Nat) : Int))) (.int .i64 (((D.awL.length : Nat) : Int))) kr (by rw [SX.SlAt.count D.Answer.len kc (H.fact' 0 (D.ansF z5 D.awL) kr)])
 refine Xb [0] A H fun ac w A H => ?_
 have A := A.re 16 (.bool (((D.awL.length : Nat) : Int) == 5)) (.bool true) kr (by rfl)
 refine Xb [0, 0, 0] A H fun ac w A H => ?_
 obtain ⟨e1, he1⟩ := SX.get_of_lt (l := D.awL) (i := 4) kc
 refine SX.given A (SX.run_idx (P := Tryz.prog) (H.fact' 0 (D.ansF z5 D.awL) kr) (T := 82) (E := 62) (k := .i64) (i := 4) Tryz.underlying82 kr (by rw [SX.SlAt.count D.Answer.len kc (H.fact' 0 (D.ansF z5 D.awL) kr)]; exact (List.getElem?_eq_some_iff.1 he1).1)) kr kr fun ac A => ?_
 refine SX.given A (SX.run_loadN (P := Tryz.prog) (T := 62) (b := z5.blk) (o := z5.off + 4 * 6) (D.Answer.cells e1) kr kr (fun q_ hq_ => SX.SlAt.elem D.Answer.len (H.fact' 0 (D.ansF z5 D.awL) kr) he1 hq_)) kr kr fun ac A => Xb [0, 0] A H fun ac w A H => SX.given A (SX.run_semEq (P := Tryz.prog) _ 62 (.tmp 21) (.tmp 23) #[.int .i64 (e1.err), .int .i64 (e1.id), .int .u64 (((e1.result.val : Nat) : Int)), .bool e1.result.fault.is_, .int .i64 (e1.result.fault.cause), .int .u64 (((e1.result.fault.addr : Nat) : Int))] #[.int .i64 0, .int .i64 0, .int .u64 77, .bool false, .int .i64 0, .int .u64 0] ((e1.err == 0 && (e1.id == 0 && (((((e1.result.val : Nat) : Int) == 77 && (((e1.result.fault.is_ == false && (e1.result.fault.cause == 0 && (((e1.result.fault.addr : Nat) : Int) == 0 && true)))) && true))) && true)))) kr (SX.eqA Tryz.underlying62 kr (SX.eqf kr kr ⟨.int .i64 (e1.err), by kernel_rfl⟩ ⟨.int .i64 0, by kernel_rfl⟩ (SX.eqf kr kr ⟨.int .i64 (e1.id), by kernel_rfl⟩ ⟨.int .i64 0, by kernel_rfl⟩ (SX.eqf kr (SX.eqOneA (u := #[.int .u64 (((e1.result.val : Nat) : Int)), .bool e1.result.fault.is_, .int .i64 (e1.result.fault.cause), .int .u64 (((e1.result.fault.addr : Nat) : Int))]) (v := #[.int .u64 77, .bool false, .int .i64 0, .int .u64 0]) kr kr (SX.eqA Tryz.underlying60 kr (SX.eqf kr kr ⟨.int .u64 (((e1.result.val : Nat) : Int)), by kernel_rfl⟩ ⟨.int .u64 77, by kernel_rfl⟩ (SX.eqf kr (SX.eqOneA (u := #[.bool e1.result.fault.is_, .int .i64 (e1.result.fault.cause), .int .u64 (((e1.result.fault.addr : Nat) : Int))]) (v := #[.bool false, .int .i64 0, .int .u64 0]) kr kr (SX.eqA Tryz.underlying58 kr (SX.eqf kr kr ⟨.bool e1.result.fault.is_, by kernel_rfl⟩ ⟨.bool false, by kernel_rfl⟩ (SX.eqf kr kr ⟨.int .i64 (e1.result.fault.cause), by kernel_rfl⟩ ⟨.int .i64 0, by kernel_rfl⟩ (SX.eqf kr kr ⟨.int .u64 (((e1.result.fault.addr : Nat) : Int)), by kernel_rfl⟩ ⟨.int .u64 0, by kernel_rfl⟩ SX.eqf_nil))))) ⟨.agg #[.bool e1.result.fault.is_, .int .i64 (e1.result.fault.cause), .int .u64 (((e1.result.fault.addr : Nat) : Int))], by kernel_rfl⟩ ⟨.agg #[.bool false, .int .i64 0, .int .u64 0], by kernel_rfl⟩ SX.eqf_nil)))) ⟨.agg #[.int .u64 (((e1.result.val : Nat) : Int)), .bool e1.result.fault.is_, .int .i64 (e1.result.fault.cause), .int .u64 (((e1.result.fault.addr : Nat) : Int))], by kernel_rfl⟩ ⟨.agg #[.int .u64 77, .bool false, .int .i64 0, .int .u64 0], by kernel_rfl⟩ SX.eqf_nil))))) kr kr fun ac A => ?_
 have A := A.re 24 (.bool ((e1.err == 0 && (e1.id == 0 && (((((e1.result.val : Nat) : Int) == 77 && (((e1.result.fault.is_ == false && (e1.result.fault.cause == 0 && (((e1.result.fault.addr : Nat) : Int) == 0 && true)))) && true))) && true))))) (.bool true) kr (by rw [← (Option.some.inj he1 : D.awA 4 = e1)]; exact congrArg Value.bool (by decide +kernel))
 refine Xb [0, 0, 0, 0, 0] A H fun ac w A H => ?_
 have A := A.re 29 (.int .i64 (((z4.n : Nat) : Int))) (.int .i64 (((((D.awK 5).fences).length : Nat) : Int))) kr (by rw [SX.SlAt.count D.Fence.len kc (H.fact' 1 (D.fnsF z4 ((D.awK 5).fences)) kr)])
 refine Xb [0] A H fun ac w A H => ?_
 have A := A.re 30 (.bool (((((D.awK 5).fences).length : Nat) : Int) == 0)) (.bool true) kr (by rfl)
 refine Xb [0, 0, 0, 0, 0] A H fun ac w A H => ?_
 have A := A.re 35 (.bool (((D.awK 5).now) == 0)) (.bool true) kr (by rfl)
 refine Xb [0, 0] A H fun ac w A H => XD (XT (XW (Xr [0] (.bool true) A H ?_)))
 rfl
end Go.Proofs.YtfkmcdkncmapmaaGreatDoor
