/- The pieces of a list of numbers. -/
import Derived.Test.YtfkmcdkncmapmaaGreatDoorY02
import Derived.Test.YtfkmcdkncmapmaaGreatDoorY05
import Derived.Test.YtfkmcdkncmapmaaGreatDoorY38
import Derived.Test.YtfkmcdkncmapmaaGreatDoorY37
set_option linter.unusedVariables false
set_option linter.unusedSimpArgs false
set_option maxRecDepth 100000
set_option maxHeartbeats 2000000
namespace Go.Proofs.YtfkmcdkncmapmaaGreatDoor
open Go Go.RowKit
namespace D
def chunkS (s : SX.Sl) (lo hi : Nat) : SX.Sl := ⟨if hi = lo then s.a else s.a.map (·.add (lo * 1)), hi - lo, hi - lo⟩
def hiN (raw : List Int) (j : Nat) : Nat := 10 * j + min 10 (raw.length - 10 * j)
def chunkL (raw : List Int) (j : Nat) : List Int := (raw.drop (10 * j)).take 10
theorem ints_map : ∀ l : List Int, l.flatMap int1 = l.map fun x => Value.int .i64 x
 | [] => rfl
 | x :: l => by rw [List.flatMap_cons, ints_map l]; rfl
theorem chunk_fact {s : SX.Sl} {raw : List Int} {w : World} {no : List Nat} (h : (isF s raw).P w no) (j : Nat) (hj : 10 * j < raw.length) : (isF (chunkS s (10 * j) (hiN raw j)) (chunkL raw j)).P w no := by
 have h : SX.SlAt w no s 1 (raw.flatMap int1) := h
 have hn := SX.SlAt.count (f := int1) (sz := 1) (fun _ => rfl) kc h
 have hle := h.le
 have hh : hiN raw j ≤ raw.length := by unfold hiN; omega
 have hlo : 10 * j < hiN raw j := by unfold hiN; omega
 have h2 := SX.slAt_cut (SX.SlAt.sub h (10 * j) (hiN raw j) ko ko)
 have e1 : (⟨(SX.Sl.sub s 1 (10 * j) (hiN raw j)).a, (SX.Sl.sub s 1 (10 * j) (hiN raw j)).n, (SX.Sl.sub s 1 (10 * j) (hiN raw j)).n⟩ : SX.Sl) = chunkS s (10 * j) (hiN raw j) := by
  unfold chunkS SX.Sl.sub
  rw [if_neg ko, if_neg ko]
 have e2 : ((raw.flatMap int1).drop (10 * j * 1)).take ((hiN raw j - 10 * j) * 1) = (chunkL raw j).flatMap int1 := by
  rw [ints_map, ints_map, ← List.map_drop, ← List.map_take, chunkL, Nat.mul_one, Nat.mul_one]
  congr 1
  have e3 : hiN raw j - 10 * j = min 10 (raw.drop (10 * j)).length := by unfold hiN; rw [List.length_drop]; omega
  rw [e3, List.take_eq_take_iff]
  omega
 rw [e1, e2] at h2
 exact h2
def ChIx (raw : List Int) := { j : Nat // 10 * j < raw.length }
def chEnc (s : SX.Sl) (raw : List Int) (x : ChIx raw) : Array Value := #[.slice (chunkS s (10 * x.1) (hiN raw x.1)).a (chunkS s (10 * x.1) (hiN raw x.1)).n (chunkS s (10 * x.1) (hiN raw x.1)).c]
end D
theorem SX.run_min {P : Program} {w : World} {a b : Nat} (tys : Array TypeId) (t : TypeId) : (SX.semB (Builtin.min_ tys t #[.int .i64 (a : Int), .int .i64 (b : Int)])).run P w = .ok (.value (.int .i64 ((min a b : Nat) : Int))) w := by
 refine SX.run_semB ?_
 by_cases h : b < a
 · have h2 : min a b = b := by omega
   rw [h2]
   simp [Builtin.min_, Builtin.min2, Sem.run, go_sem, h]
 · have h2 : min a b = a := by omega
   rw [h2]
   simp [Builtin.min_, Builtin.min2, Sem.run, go_sem, h]
theorem chunk_calls (s1 : SX.Sl) (w0 : World) : SX.Rets Tryz.prog 118 #[.slice s1.a s1.n s1.c, .int .i64 10] w0 (fun v w' => ∃ bm bf : Nat, v = .func (.func 160) #[] #[.pointer (some ⟨bm, 0, none⟩), .pointer (some ⟨bf, 0, none⟩)] ∧ w0.heap.size ≤ bm ∧ w0.heap.size ≤ bf ∧ w'.heap[bm]? = some (.cells #[.slice s1.a s1.n s1.c] 24 (0, 0)) ∧ w'.heap[bf]? = some (.cells #[.int .i64 10] 3 (0, 0))) := by
 refine SX.enter (args := [.slice s1.a s1.n s1.c, .int .i64 10]) 9 Tryz.func118 rfl kr fun ac A H => XS (XR (Xb [0, 0, 0] A H fun ac w A H => XD (XT (XS (XS (XR (Xb [1, 0] A H fun ac w A H => XD (XT (Xf A (XK (XT (XS (XR (Xb [0, 0] A H fun ac w A H => XD (XT (XW (Xr [0] (.func (.func 160) #[] #[.pointer (some ⟨SX.bb H 0, 0, none⟩), .pointer (some ⟨SX.bb H 1, 0, none⟩)]) A H ?_)))))))))))))))))
 exact ⟨SX.bb H 0, SX.bb H 1, rfl, H.fresh (SX.bb H 0, .cells #[.slice s1.a s1.n s1.c] 24 (0, 0)) (List.mem_of_getElem? (i := 0) kr), H.fresh (SX.bb H 1, .cells #[.int .i64 10] 3 (0, 0)) (List.mem_of_getElem? (i := 1) kr), SX.boxHas H 0 #[.slice s1.a s1.n s1.c] 24 kr kr, SX.boxHas H 1 #[.int .i64 10] 3 kr kr⟩
end Go.Proofs.YtfkmcdkncmapmaaGreatDoor
set_option linter.unusedVariables false
set_option linter.unusedSimpArgs false
set_option maxRecDepth 100000
set_option maxHeartbeats 2000000
namespace Go.Proofs.YtfkmcdkncmapmaaGreatDoor
open Go Go.RowKit
theorem min_val (a b : Nat) : (if ((b : Nat) : Int) < ((a : Nat) : Int) then ((b : Nat) : Int) else ((a : Nat) : Int)) = ((min a b : Nat) : Int) := by
 split <;> omega
theorem chunk_stops (s1 : SX.Sl) (raw : List Int) (bm bf : Nat) (wS w0 : World) (hs1 : (D.isF s1 raw).P wS []) (hS : Below wS.heap.size wS w0) (hr : raw.length < 1000000)
 (hm : w0.heap[bm]? = some (.cells #[.slice s1.a s1.n s1.c] 24 (0, 0))) (hf : w0.heap[bf]? = some (.cells #[.int .i64 10] 3 (0, 0))) :
 SeqStopsK Fence.wide 8 Tryz.prog 160 #[.pointer (some ⟨bm, 0, none⟩), .pointer (some ⟨bf, 0, none⟩)] (D.chEnc s1 raw) (SX.KeepK [bm, bf] wS.heap.size) (fun xs => xs.map (·.1) = List.range ((raw.length + 9) / 10)) (fun _ => True) raw.length w0 := by
 intro l J Jx W hb hJ hJx hY hj0
 have O : SX.Free Fence.wide := SX.free_wide
 have hn1 : s1.n = raw.length := SX.SlAt.count (f := D.int1) (sz := 1) (fun _ => rfl) kc (show SX.SlAt wS [] s1 1 (raw.flatMap D.int1) from hs1)
 have hc1 : s1.n ≤ s1.c := SX.SlAt.le (show SX.SlAt wS [] s1 1 (raw.flatMap D.int1) from hs1)
 have eargs : (#[.func (.yield l) #[] #[]] ++ #[.pointer (some ⟨bm, 0, none⟩), .pointer (some ⟨bf, 0, none⟩)] : Array Value) = [.func (.yield l) #[] #[], .pointer (some ⟨bm, 0, none⟩), .pointer (some ⟨bf, 0, none⟩)].toArray := by simp
 rw [eargs]
 refine SX.enterI (no := []) (by simp) 31 Tryz.func160 rfl kr fun ac A H => SX.seqI (wpIn_region (SX.batchI [0] A H kr kr fun ac w A H => SX.ops_doneI kr (XT (wpIn_block ?_))))
 have hbw : Below w0.heap.size w0 w := hb.trans (H.below.mono hb.size)
 have hmw : w.heap[bm]? = some (.cells #[.slice s1.a s1.n s1.c] 24 (0, 0)) := by rw [hbw.block bm (SX.getElem?_lt hm)]; exact hm
 have hfw : w.heap[bf]? = some (.cells #[.int .i64 10] 3 (0, 0)) := by rw [hbw.block bf (SX.getElem?_lt hf)]; exact hf
 refine SX.loopGI (σ := Nat) (fun j ac w => j ≤ (raw.length + 9) / 10 ∧ (∃ pre : List (D.ChIx raw), pre.map (·.1) = List.range j ∧ J pre w) ∧ SX.Agrees 31 ac [(0, .func (.yield l) #[] #[]), (1, .pointer (some ⟨bm, 0, none⟩)), (2, .pointer (some ⟨bf, 0, none⟩)), (4, .int .i64 ((10 * j : Nat) : Int))] ∧ Below wS.heap.size wS w ∧ w.heap[bm]? = some (.cells #[.slice s1.a s1.n s1.c] 24 (0, 0)) ∧ w.heap[bf]? = some (.cells #[.int .i64 10] 3 (0, 0))) (fun j => (raw.length + 9) / 10 - j) 0 ?_ ?_
 · exact ⟨by omega, ⟨[], by simp, SX.abides_below hJ hj0 H.below⟩, A.sub _ kr, hS.trans (hbw.mono hS.size), hmw, hfw⟩
 · rintro j ac w ⟨hj, ⟨pre, hpre, hjj⟩, A, hSw, hmw, hfw⟩
   have H : SX.Own w w [] ⟨[], [], []⟩ := SX.Own.start w [] (by simp)
   have H := H.fb_old hmw
   have H := H.fb_old hfw
   refine SX.seqI (SX.seqI (wpIn_region (SX.batchI [0, 1000, 0, 0] A H kr kr fun ac w1 A H => SX.ops_doneI kr (XT ?_))))
   refine Xs (decide (((10 * j : Nat) : Int) < ((s1.n : Nat) : Int))) (fun h1 => ?_) fun h1 => ?_
   · have A := A.re 9 (.bool (decide (((10 * j : Nat) : Int) < ((s1.n : Nat) : Int)))) (.bool true) kr (by rw [h1])
     have h1p : 10 * j < raw.length := by simp only [decide_eq_true_eq] at h1; omega
     have hlen : pre.length < raw.length := by
      have h := congrArg List.length hpre
      rw [List.length_map, List.length_range] at h
      omega
     refine SX.condTI A kr kr (wpIn_skip (XT (SX.seqI (wpIn_block (SX.seqI (SX.drawnI 7 [] kr A H fun w2 H => SX.takes [] [(0, some 1001), (1, some 1000), (2, none)] A H kr kd kr kr kr (Or.inl kr) fun ac A => SX.takeG 3 [] A H kr kd (fun w HK => SX.run_subL (P := Tryz.prog) (w := w) (k' := .i64) s1 (T := 24) (E := 3) (sz := 1) Tryz.underlying24 kr (10 * j) ko) kr kr kr kr kr fun ac A => SX.takes [] [(4, none)] A H kr kd kr kr kr (Or.inl kr) fun ac A => SX.act 5 0 [] A H kr kr kr (Or.inl kr) fun ac w3 A H => ?_))))))
     have A := A.re 18 (.int .i64 (if ((s1.n - 10 * j : Nat) : Int) < ((10 : Nat) : Int) then ((s1.n - 10 * j : Nat) : Int) else ((10 : Nat) : Int))) (.int .i64 ((min 10 (raw.length - 10 * j) : Nat) : Int)) kr (by rw [min_val, hn1])
     refine SX.act 6 0 [] A H kr kr kr (Or.inl kr) fun ac w4 A H => ?_
     refine SX.doneD kr ?_ _
     refine XT (SX.seqI (wpIn_region (SX.batchI [0, 1000, 0, 0, 0, 0] A H kr kr fun ac w6 A H => ?_)))
     have A := A.re 24 (.int .i64 (IntKind.i64.wrap (((10 * j : Nat) : Int) + ((min 10 (raw.length - 10 * j) : Nat) : Int)))) (.int .i64 ((10 * j + min 10 (raw.length - 10 * j) : Nat) : Int)) kr (SX.i_addN _ _ ko)
     refine SX.batchI [0, 0, 0] A H kr kr fun ac w7 A H => ?_
     have A := A.re 27 (.int .i64 (IntKind.i64.wrap (((10 * j : Nat) : Int) + ((min 10 (raw.length - 10 * j) : Nat) : Int)))) (.int .i64 ((10 * j + min 10 (raw.length - 10 * j) : Nat) : Int)) kr (SX.i_addN _ _ ko)
     refine SX.givenI A (SX.run_sub3 (P := Tryz.prog) (w := w7) (k := .i64) (k' := .i64) (k'' := .i64) s1 (T := 24) (E := 3) (sz := 1) Tryz.underlying24 kr (10 * j) (10 * j + min 10 (raw.length - 10 * j)) (10 * j + min 10 (raw.length - 10 * j)) ko (Nat.le_refl _) ko) kr kr fun ac A => ?_
     have hj8 : J pre w7 := SX.abides_below hJ hjj H.below
     refine SX.yieldI A (hY pre ⟨j, h1p⟩ w7 hj8 hlen) kr kr fun e1 w9 he => ?_
     rcases he with ⟨rfl, hj9, hk⟩ | ⟨rfl, hx9⟩
     · refine ⟨_, rfl, fun ac A => ?_⟩
       have hS9 : Below wS.heap.size wS w9 := (hSw.trans (H.below.mono hSw.size)).trans hk.below
       have hm8 : w7.heap[bm]? = some (.cells #[.slice s1.a s1.n s1.c] 24 (0, 0)) := by rw [H.below.block bm (SX.getElem?_lt hmw)]; exact hmw
       have hf8 : w7.heap[bf]? = some (.cells #[.int .i64 10] 3 (0, 0)) := by rw [H.below.block bf (SX.getElem?_lt hfw)]; exact hfw
       have hm9 := hk.same bm (by simp) _ hm8
       have hf9 := hk.same bf (by simp) _ hf8
       have H : SX.Own w9 w9 [] ⟨[], [], []⟩ := SX.Own.start w9 [] (by simp)
       have H := H.fb_old hf9
       refine SX.batchI [0] A H kr kr fun ac w10 A H => SX.ops_doneI kr (XT (SX.condFI A kr kr (wpIn_skip (XN (XT (wpIn_region (SX.batchI [0, 1000, 0] A H kr kr fun ac w11 A H => ?_)))))))
       have A := A.re 12 (.int .i64 (IntKind.i64.wrap (((10 * j : Nat) : Int) + ((10 : Nat) : Int)))) (.int .i64 ((10 * (j + 1) : Nat) : Int)) kr ((SX.i_addN (10 * j) 10 ko).trans (by rw [show 10 * j + 10 = 10 * (j + 1) by omega]))
       refine SX.batchI [0] A H kr kr fun ac w12 A H => SX.ops_doneI kr ?_
       refine ⟨j + 1, ⟨by omega, ⟨pre ++ [⟨j, h1p⟩], ?_, SX.abides_below hJ hj9 H.below⟩, A.sub _ kr, hS9.trans (H.below.mono hS9.size), ?_, ?_⟩, by omega⟩
       · rw [List.map_append, hpre, List.range_succ]; rfl
       · rw [H.below.block bm (SX.getElem?_lt hm9)]; exact hm9
       · rw [H.below.block bf (SX.getElem?_lt hf9)]; exact hf9
     · refine ⟨_, rfl, fun ac A => ?_⟩
       have H : SX.Own w9 w9 [] ⟨[], [], []⟩ := SX.Own.start w9 [] (by simp)
       refine SX.batchI [0] A H kr kr fun ac w10 A H => SX.ops_doneI kr (XT (SX.condTI A kr kr (wpIn_ret ?_)))
       refine (show bodyPost Tryz.prog Tryz.f160 (fun e W' => (∃ v, e = .returned v) ∧ ((∃ xs, List.map (·.1) xs = List.range ((raw.length + 9) / 10) ∧ J xs W') ∨ (∃ pre, True ∧ Jx pre W'))) .ret _ _ from ?_)
       refine SX.retW [] (.tuple #[]) A H kr kr kr ?_
       exact ⟨⟨_, rfl⟩, .inr ⟨_, trivial, SX.abides_below hJx hx9 H.below⟩⟩
   · have A := A.re 9 (.bool (decide (((10 * j : Nat) : Int) < ((s1.n : Nat) : Int)))) (.bool false) kr (by rw [h1])
     have h1p : ¬ 10 * j < raw.length := by simp only [decide_eq_false_iff_not] at h1; omega
     have ej : j = (raw.length + 9) / 10 := by omega
     refine SX.condFI A kr kr (wpIn_exit (XX (XX (XE ?_))))
     refine (show bodyPost Tryz.prog Tryz.f160 (fun e W' => (∃ v, e = .returned v) ∧ ((∃ xs, List.map (·.1) xs = List.range ((raw.length + 9) / 10) ∧ J xs W') ∨ (∃ pre, True ∧ Jx pre W'))) .ret _ _ from ?_)
     refine SX.retW [] (.tuple #[]) A H kr kr kr ?_
     exact ⟨⟨_, rfl⟩, .inl ⟨pre, by rw [hpre, ej], SX.abides_below hJ hjj H.below⟩⟩
end Go.Proofs.YtfkmcdkncmapmaaGreatDoor
set_option linter.unusedVariables false
set_option linter.unusedSimpArgs false
set_option maxRecDepth 100000
set_option maxHeartbeats 2000000
namespace Go.Proofs.YtfkmcdkncmapmaaGreatDoor
open Go Go.RowKit
namespace D
def opsF (s : SX.Sl) (l : List Op) : SX.Fact := SX.slF s 12 (l.flatMap Op.cells)
theorem Op.len (o : Op) : (Op.cells o).length = 12 := rfl
theorem ops_len : ∀ l : List Op, (l.flatMap Op.cells).length = l.length * 12
 | [] => rfl
 | x :: l => by rw [List.flatMap_cons, List.length_append, ops_len l, Op.len, List.length_cons]; omega
theorem ops_one (l : List Op) : ∀ u ∈ l.flatMap Op.cells, u.oneCell' = true := fun u hu => by
 obtain ⟨x, _, hx⟩ := List.mem_flatMap.1 hu
 exact List.all_eq_true.1 (show (Op.cells x).all (fun v => v.oneCell') = true from rfl) u hx
def decodeN (raw : List Int) : List Op := (List.range ((raw.length + 9) / 10)).map fun j => oneN (chunkL raw j)
end D
theorem Decode_calls (raw : List Int) {no : List Nat} (s1 : SX.Sl) (w0 : World) (hno : ∀ b ∈ no, b < w0.heap.size) (hs1 : (D.isF s1 raw).P w0 no) (hL : Ld w0) (hr : raw.length < 1000000) :
 SX.Rets Tryz.prog 59 #[.slice s1.a s1.n s1.c] w0 (fun v w' => ∃ s : SX.Sl, v = .slice s.a s.n s.c ∧ (D.opsF s (D.decodeN raw)).P w' no) := by
 refine SX.enterM (args := [.slice s1.a s1.n s1.c]) (no := no) hno 14 Tryz.func59 rfl kr fun ac A H => XS (XR (Xb [0] A H fun ac w A H => XD (XT (XS (XR (Xb [0] A H fun ac w A H => XD (XT (XS (XS (XR (Xb [0] A H fun ac w A H => SX.callW A (chunk_calls s1 w) kr kr ?_)))))))))))
 rintro _ ac w' ⟨hB, bm, bf, rfl, hlo1, hlo2, hbm, hbf⟩ A
 refine XD (XT ?_)
 obtain ⟨B3, A, M, hm7, hf7, hlo7⟩ : ∃ B3 : Nat, SX.Agrees 14 ac [(3, .pointer (some ⟨B3, 0, none⟩)), (6, .func (.func 160) #[] #[.pointer (some ⟨bm, 0, none⟩), .pointer (some ⟨bf, 0, none⟩)])] ∧
  SX.Mid w0 ([B3, bm, bf] ++ no) [(bm, .cells #[.slice s1.a s1.n s1.c] 24 (0, 0)), (bf, .cells #[.int .i64 10] 3 (0, 0))] B3 55 68 12 [] w' ∧ bm ≠ B3 ∧ bf ≠ B3 ∧ w0.heap.size ≤ B3 := by
  obtain ⟨b0, g0, f0, A2⟩ : ∃ b0 : Nat, w.heap[b0]? = some (.cells #[.slice none 0 0] 55 (0, 0)) ∧ w0.heap.size ≤ b0 ∧
   SX.Agrees 14 ac [(3, .pointer (some ⟨b0, 0, none⟩)), (6, .func (.func 160) #[] #[.pointer (some ⟨bm, 0, none⟩), .pointer (some ⟨bf, 0, none⟩)])] :=
   ⟨SX.bb H 0, SX.boxHas H 0 #[.slice none 0 0] 55 kr kr, H.fresh (SX.bb H 0, .cells #[.slice none 0 0] 55 (0, 0)) (List.mem_of_getElem? (i := 0) kr), A.sub _ kr⟩
  have hbel := H.below.trans (hB.mono H.below.size)
  clear H A
  have k0 := (hB.block _ (SX.getElem?_lt g0)).trans g0
  have l0 := SX.getElem?_lt g0
  have hsz := hB.size
  refine ⟨b0, A2, ⟨hbel, fun p hp => ?_, ⟨⟨none, 0, 0⟩, k0, .inl ⟨rfl, rfl⟩⟩, fun b hb => ?_⟩, by omega, by omega, f0⟩
  · simp only [List.mem_cons, List.not_mem_nil, or_false] at hp
    rcases hp with rfl | rfl
    · exact ⟨_, _, _, rfl, hbm, by simp⟩
    · exact ⟨_, _, _, rfl, hbf, by simp⟩
  · simp only [List.mem_append, List.mem_cons, List.not_mem_nil, or_false] at hb
    rcases hb with (rfl | rfl | rfl) | hb
    · omega
    · exact SX.getElem?_lt hbm
    · exact SX.getElem?_lt hbf
    · have := hno _ hb
      have := hbel.size
      omega
 clear H
 refine XB ?_
 have hs0 : (D.isF s1 raw).P w0 [] := (D.isF s1 raw).st w0 w0 no [] (fun b o _ hb => ⟨by simp, hb⟩) hs1
 have hmem : ∀ (W : World) (b : Nat), Below w0.heap.size w0 W → w0.heap.size ≤ b → (D.isF s1 raw).P W [b] := fun W b hb hlo => (D.isF s1 raw).st w0 W [] [b] (fun k o _ hk => ⟨by have := SX.getElem?_lt hk; simp; omega, by rw [hb.block k (SX.getElem?_lt hk)]; exact hk⟩) hs0
 let row : List (D.ChIx raw) → List D.Op := fun pre => pre.map (fun x => D.oneN (D.chunkL raw x.1))
 have O9 : ∀ lb, SX.Free (Fence.wide.inRound lb) := SX.free_round
 refine (wpIn_wide (n := 9)).1 ?_
 refine (wpIn_rangeFunc_ownH (encs := D.chEnc s1 raw) (gf := 160) (lb := #[.pointer (some ⟨bm, 0, none⟩), .pointer (some ⟨bf, 0, none⟩)]) rfl kc (A.eval (x := .tmp 6) kr) trivial (SX.enters Tryz.func160 kr rfl)
  (chunk_stops s1 raw bm bf w0 w' hs0 M.below hr hbm hbf) SX.KeepK.trans (fun W lb o o' hlb ho hc hw => SX.keepK_b M.below.size (fun k hk => ?_) W lb o o' hlb ho hc hw) (Below.refl _ _) (fun x => rfl)
  (fun pre W => SX.Mid w0 ([B3, bm, bf] ++ no) [(bm, .cells #[.slice s1.a s1.n s1.c] 24 (0, 0)), (bf, .cells #[.int .i64 10] 3 (0, 0))] B3 55 68 12 ((row pre).flatMap D.Op.cells) W) (fun _ _ _ => False)
  ?_ (fun _ _ _ _ _ h _ _ => h) ?_
  (fun x a' W => SX.Agrees 14 a' [(3, .pointer (some ⟨B3, 0, none⟩)), (4, .slice (D.chunkS s1 (10 * x.1) (D.hiN raw x.1)).a (D.chunkS s1 (10 * x.1) (D.hiN raw x.1)).n (D.chunkS s1 (10 * x.1) (D.hiN raw x.1)).c)]) (fun _ _ _ _ _ _ h _ _ => h) ?_ ?_ ?_ (fun _ _ _ _ _ _ h _ => h.elim))
 · simp only [List.mem_cons, List.not_mem_nil, or_false] at hk
   rcases hk with rfl | rfl
   · exact SX.getElem?_lt hbm
   · exact SX.getElem?_lt hbf
 · exact fun pre W W' rw_ h hg hr => h.turn hg fun r e => ⟨Nat.le_trans M.below.size (hr r e).1, (hr r e).2⟩
 · exact M
 · intro lp pre x W K hI hK
   have O := O9 lp
   refine SX.regionI (SX.batch [0] (SX.Agrees.round1 (p := 7) A kc (.slice (D.chunkS s1 (10 * x.1) (D.hiN raw x.1)).a (D.chunkS s1 (10 * x.1) (D.hiN raw x.1)).n (D.chunkS s1 (10 * x.1) (D.hiN raw x.1)).c)) (SX.Own.start W [] (by simp)) kr kr fun a2 W2 A2 H2 => XD ?_)
   exact hK a2 W2 (SX.keeps_below H2.below _) (SX.keepK_below H2.below (Nat.le_trans hI.below.size (Nat.le_refl _))) (hI.keep H2.below) (A2.sub _ kr)
 · rintro lp pre x a' W hlp _ hI A hlen
   have O := O9 lp
   refine wpIn_block ?_
   have hI4 : SX.Mid w0 ([B3, bm, bf] ++ no) _ B3 55 68 12 ((row pre).flatMap D.Op.cells) W.drew := hI.keep ((Below.refl _ W).drew)
   obtain ⟨s, hsb, hso⟩ := hI4.row
   refine SX.drawnK 5 (SX.Keeps [] [(B3, .cells #[s.v] 55 (0, 0))] [D.isF s1 raw]) kr ?_
   have H5 := SX.own_cut hsb [D.isF s1 raw] (fun F hF => by simp only [List.mem_singleton] at hF; subst hF; exact hmem _ _ hI4.below hlo7) [] (fun p hp => by cases hp)
   refine SX.takes [0] [(0, some 0), (1, none)] A H5 kr kd kr kr kr (Or.inl kr) (k := 1) fun ac A => SX.callGD 2 [0] A H5 (one_calls (D.chunkL raw x.1) (D.chunkS s1 (10 * x.1) (D.hiN raw x.1)) W.drew H5.nos_lt (D.chunk_fact (H5.fact' 1 (D.isF s1 raw) kr) x.1 x.2) (hL.below hI4.below) (by rw [D.chunkL, List.length_take]; exact Nat.min_le_left _ _)) kr kr kr kr (Or.inl kr) (k := 1) fun ac w5 A H5 => SX.act 3 0 [0] A H5 kr kr kr (Or.inl kr) (k := 1) fun ac w6 A H6 => ?_
   obtain ⟨nb, hnb, A⟩ : ∃ nb : Nat, w6.heap[nb]? = some (.cells (D.Op.cells (D.oneN (D.chunkL raw x.1))).toArray 68 (0, 0)) ∧ SX.Agrees 14 ac [(3, .pointer (some ⟨B3, 0, none⟩)), (8, s.v), (11, .slice (some ⟨nb, 0, none⟩) 1 1)] :=
    ⟨SX.bb H6 1, SX.boxHas H6 1 (D.Op.cells (D.oneN (D.chunkL raw x.1))).toArray 68 kr kr, A.sub _ kr⟩
   have h6 := SX.cut_after hsb (H6.pick [0] [(B3, .cells #[s.v] 55 (0, 0))] kc kr) (H6.fact' 0 (SX.keepF W.drew B3) kr)
   clear H6
   have hbel6 := SX.cut_below hsb h6
   have hs6 : SX.SlAt w6 [] ⟨some ⟨nb, 0, none⟩, 1, 1⟩ 12 (D.Op.cells (D.oneN (D.chunkL raw x.1))) := SX.slAt_own (xs := D.Op.cells (D.oneN (D.chunkL raw x.1))) hnb rfl (Nat.le_refl _) rfl
   have hone : ∀ u ∈ D.Op.cells (D.oneN (D.chunkL raw x.1)), u.oneCell' = true := fun u hu => D.ops_one [D.oneN (D.chunkL raw x.1)] u (by simpa using hu)
   obtain ⟨s7, w7, hrun, hfb7, hsame7, hbel7, hB7, hfin⟩ := hI4.push (P := Tryz.prog) (t := 55) (tx := 55) (ty := 55) (i := Tryz.t68) (z := (Tryz.t68.zero).getD undef) (x := .slice (some ⟨nb, 0, none⟩) 1 1) (k := 1) (news := D.Op.cells (D.oneN (D.chunkL raw x.1))) hbel6 (by simp) (by
    intro p hp
    simp only [List.mem_cons, List.not_mem_nil, or_false] at hp
    rcases hp with rfl | rfl
    · exact hm7
    · exact hf7) hlo7 Tryz.underlying55 kr kr kr kc (hs6.src (e' := 68) Tryz.underlying55 hone) rfl (fun s' hs' => by
      have h := hs'.at_.len
      rw [D.ops_len] at h
      have e : Tryz.t68.size = 12 := rfl
      have e2 : (row pre).length = pre.length := List.length_map _
      rw [e] at h
      have e8 : Tryz.t68.bytes = 72 := rfl
      rw [e8]
      omega) hsb hso
   have hbel07 : Below w0.heap.size w0 w7 := (hI4.below.trans (hbel6.mono hI4.below.size)).trans hbel7
   refine SX.rawD 4 A hrun ⟨fun p hp => ?_, fun p hp => ?_, fun F hF => ?_⟩ kr kr kr kr fun ac A => ?_
   · simp only [List.mem_singleton] at hp; subst hp; exact hB7
   · cases hp
   · simp only [List.mem_singleton] at hF; subst hF
     exact (D.isF s1 raw).st w7 w7 [w0.heap.size] [] (fun b o _ hb => ⟨by simp, hb⟩) (hmem w7 _ hbel07 (Nat.le_refl _))
   have H8 := SX.own_cut hB7 [D.isF s1 raw] (fun F hF => by simp only [List.mem_singleton] at hF; subst hF; exact hmem _ _ hbel07 hlo7) [] (fun p hp => by cases hp)
   refine SX.act 5 0 [0] A H8 kr kr kr (Or.inr kr) (k := 1) fun ac w8 A H8 => ?_
   refine SX.doneD kr ?_ _
   refine XN ?_
   have h8 := SX.cut_after hB7 (H8.pick [0] [(B3, .cells #[s7.v] 55 (0, 0))] kc kr) (H8.fact' 0 (SX.keepF w7 B3) kr)
   obtain ⟨hM8, hKF, hKK⟩ := hfin w8 h8.1 h8.2.1 h8.2.2
   have e : (row (pre ++ [x])).flatMap D.Op.cells = (row pre).flatMap D.Op.cells ++ D.Op.cells (D.oneN (D.chunkL raw x.1)) := by simp [row]
   refine ⟨(SX.keeps_below ((Below.refl _ W).drew) _).trans (hKF _), SX.KeepK.trans (SX.keepK_below ((Below.refl _ W).drew) hI.below.size) (hKK [bm, bf] w0.heap.size (fun b hb => ?_) (Nat.le_refl _)), ?_⟩
   · simp only [List.mem_cons, List.not_mem_nil, or_false] at hb
     rcases hb with rfl | rfl
     · exact ⟨by simp, hm7⟩
     · exact ⟨by simp, hf7⟩
   · show SX.Mid _ _ _ _ _ _ _ ((row (pre ++ [x])).flatMap D.Op.cells) _
     rw [e]
     exact hM8
 · intro D_ xs W hD hxs hI hK
   have erow : row xs = D.decodeN raw := by
    have hxs : xs.map (·.1) = List.range ((raw.length + 9) / 10) := hxs
    rw [D.decodeN, ← hxs, List.map_map]
    rfl
   obtain ⟨s, hsb, hso⟩ := hI.row
   have ea : ({ ac with defers := { target := .collected D_, args := #[] } :: ac.defers } : Act) = SX.addD [{ target := .collected D_, args := #[] }] ac := by
    have h := A.defers
    cases ac
    simp only at h
    subst h
    rfl
   rw [ea]
   refine XN (XT (XS (XR (SX.ops_addD (by rintro ⟨_, _, h⟩; obtain ⟨_, hv, _⟩ := h; cases hv) _ _ _ ?_))))
   have H : SX.Own W W [] ⟨[], [], no⟩ := SX.Own.start W no (fun b hb => hI.lt b (by simp [hb]))
   have H := H.fb_old hsb
   refine SX.batch [1000, 0] A H kr kr fun ac w2 A H => XD (XT (XW ?_))
   have hK2 : w2.heap[D_]? = some (.deferred (some [])) := (H.below.block D_ (SX.getElem?_lt hK)).trans hK
   show LeavesInM Fence.wide 9 Tryz.prog Tryz.f59 _ _ (ac.defers ++ [{ target := .collected D_, args := #[] }]) .returning w2
   rw [A.defers, List.nil_append]
   unfold LeavesInM
   refine ⟨by simp, .inl ⟨D_, _, rfl, run_takeDeferred hK2, ?_⟩⟩
   unfold LeavesInM LeavesIn
   have hg : w2.grownBy (w2.putObj D_ (.deferred none)) (some D_) := grownBy_putObj' w2 D_ _
   have hr : ∀ r, some D_ = some r → ∃ o : Obj, w2.heap[r]? = some o ∧ o.isCells = false := fun r e => by cases e; exact ⟨_, hK2, rfl⟩
   have hI2 := (hI.keep H.below).turn hg fun r e => ⟨by cases e; exact Nat.le_trans M.below.size hD, hr r e⟩
   have hso2 : SX.OwnRow w2 _ _ s 68 12 _ := hso.keep fun b o _ hb => (H.below.block b (SX.getElem?_lt hb)).trans hb
   have hso3 := hso2.turn hg hr
   have H9 : SX.Own (w2.putObj D_ (.deferred none)) (w2.putObj D_ (.deferred none)) [] ⟨[], [], []⟩ := SX.Own.start _ [] (by simp)
   have hres := SX.ret_run (P := Tryz.prog) (fn := Tryz.f59) [0] A H9 kr kr
   refine ⟨_, hres, _, rfl, hI2.below, s, kr, ?_⟩
   rw [← erow]
   exact hso3.at_.keep fun b o hb ho => ⟨fun h => hb (List.mem_append_right _ h), ho⟩
end Go.Proofs.YtfkmcdkncmapmaaGreatDoor
set_option linter.unusedVariables false
set_option linter.unusedSimpArgs false
set_option maxRecDepth 100000
set_option maxHeartbeats 2000000
namespace Go.Proofs.YtfkmcdkncmapmaaGreatDoor.SX
open Go Go.RowKit
/-- The block that a slice lies in. -/
def rowNo (s : Sl) : List Nat := (s.a.map (·.block)).toList
/-- A fact that does not lie in those blocks. -/
def awayF (R : List Nat) (F : Fact) : Fact := ⟨fun w no => F.P w (no ++ R), fun w w' no no' hk h => F.st w w' (no ++ R) (no' ++ R) (fun b o hb ho => by
 have h1 := hk b o (fun h => hb (List.mem_append_left _ h)) ho
 exact ⟨fun h => (List.mem_append.1 h).elim h1.1 (fun h => hb (List.mem_append_right _ h)), h1.2⟩) h⟩
/-- A row of one's own. -/
def rowF (n0 : Nat) (s : Sl) (E : TypeId) (sz : Nat) (ys : List Value) : Fact := ⟨fun w no => OwnRow w n0 no s E sz ys, fun w w' no no' hk h => by
 rcases h with h | ⟨b, xs, ha, hb, hlo, hn, r⟩
 · exact .inl h
 · obtain ⟨h1, h2⟩ := hk b _ hn hb
   exact .inr ⟨b, xs, ha, h2, hlo, h1, r⟩⟩
theorem append_row {P : Program} {w0 w : World} {bs : Boxes} {no : List Nat} {Fs : List Fact} {s : Sl} {t tx ty e : TypeId} {i : TypeInfo} {z : Value} {ys : List Value} (H : Own w0 w bs ⟨Fs.map (awayF (rowNo s)) ++ [rowF w0.heap.size s e i.size ys], [], no⟩)
 (ht : P.underlying t = some (.slice e)) (hi : P.info? e = some i) (hz : i.zero = some z) (hzs : z.cells.size = i.size) (hb8 : 0 < i.bytes)
 {x : Value} {k : Nat} {news : List Value} (hs : Src P i.size tx x k news w) (hbig : (s.n + k) * i.bytes ≤ 140737488355328) (hyl : news.length = k * i.size) :
 ∃ (s' : Sl) (w' : World), (semB (Builtin.append_ #[t, tx] ty #[s.v, x])).run P w = .ok (.value s'.v) w' ∧ s'.n = s.n + k ∧ Own w0 w' bs ⟨Fs.map (awayF (rowNo s')) ++ [rowF w0.heap.size s' e i.size (ys ++ news)], [], no⟩ := by
 have hrow : OwnRow w w0.heap.size (bs.map (·.1) ++ no) s e i.size ys := H.hro (rowF w0.heap.size s e i.size ys) (List.mem_append_right _ (List.mem_singleton.2 rfl))
 have hlt : ∀ b ∈ bs.map (·.1) ++ no, b < w.heap.size := fun b hb => H.nos_lt b hb
 have hmemR : ∀ b, b ∈ rowNo s → ∃ c, s.a = some c ∧ b = c.block := fun b hb => by
  unfold rowNo at hb
  cases hsa : s.a with
  | none => rw [hsa] at hb; simp at hb
  | some c => rw [hsa] at hb; exact ⟨c, rfl, by simpa using hb⟩
 -- all that there is, but the row
 have hbig' : OwnRow w w0.heap.size ((List.range w.heap.size).filter fun b => decide (b ∉ rowNo s)) s e i.size ys := by
  rcases hrow with h | ⟨b, xs, ha, hb, hlo, hn, r⟩
  · exact .inl h
  · refine .inr ⟨b, xs, ha, hb, hlo, fun h => ?_, r⟩
    have := (List.mem_filter.1 h).2
    simp only [decide_eq_true_eq] at this
    exact this (by unfold rowNo; rw [ha]; simp)
 obtain ⟨s', w', hrun, hrow', hn', hsame, hsz, hbel, _⟩ := run_appendOwn (P := P) (ty := ty) ht hi hz hzs hb8 hbig' hs hbig H.below.size (fun b hb => by simpa using (List.mem_filter.1 hb).1) hyl
 have hnew : ∀ b, b < w.heap.size → b ∉ rowNo s → b ∉ rowNo s' := fun b hb hbs hbs' => by
  rcases hrow' with ⟨h, _⟩ | ⟨b', xs, ha, _, _, hno, _⟩
  · rw [h] at hbs'; simp [rowNo] at hbs'
  · have e : b = b' := by unfold rowNo at hbs'; rw [ha] at hbs'; simpa using hbs'
    subst e
    exact hno (List.mem_filter.2 ⟨by simpa using hb, by simpa using hbs⟩)
 have hkeep : ∀ b o, b ∉ rowNo s → w.heap[b]? = some o → w'.heap[b]? = some o := fun b o hb ho => hsame b o (fun c hc e => hb (by unfold rowNo; rw [hc]; simp [e])) ho
 have hbsR : ∀ b, b ∈ bs.map (·.1) ++ no → b ∉ rowNo s := fun b hb hR => by
  obtain ⟨c, hc, e⟩ := hmemR b hR
  rcases hrow with ⟨h, _⟩ | ⟨b', xs, ha, _, _, hn, _⟩
  · rw [h] at hc; cases hc
  · rw [ha] at hc; cases hc; subst e; exact hn hb
 refine ⟨s', w', hrun, hn', H.below.trans hbel, fun p hp => ?_, H.fresh, H.nodup, fun r hr => ?_, fun p hp => (by cases hp), fun b hb => ⟨Nat.lt_of_lt_of_le (H.hno b hb).1 hsz, (H.hno b hb).2⟩⟩
 · exact hkeep _ _ (hbsR _ (List.mem_append_left _ (List.mem_map.2 ⟨p, hp, rfl⟩))) (H.has p hp)
 · rcases List.mem_append.1 hr with hr | hr
   · obtain ⟨F, hF, rfl⟩ := List.mem_map.1 hr
     have h1 : F.P w ((bs.map (·.1) ++ no) ++ rowNo s) := H.hro (awayF (rowNo s) F) (List.mem_append_left _ (List.mem_map.2 ⟨F, hF, rfl⟩))
     refine F.st w w' _ _ (fun b o hb ho => ?_) h1
     have hb1 : b ∉ rowNo s := fun h => hb (List.mem_append_right _ h)
     exact ⟨fun h => (List.mem_append.1 h).elim (fun h => hb (List.mem_append_left _ h)) (hnew b (getElem?_lt ho) hb1), hkeep b o hb1 ho⟩
   · simp only [List.mem_singleton] at hr
     subst hr
     rcases hrow' with h | ⟨b', xs, ha, hb', hlo, hno, r⟩
     · exact .inl h
     · refine .inr ⟨b', xs, ha, hb', hlo, fun h => ?_, r⟩
       exact hno (List.mem_filter.2 ⟨by simpa using hlt b' h, by simpa using hbsR b' h⟩)
end Go.Proofs.YtfkmcdkncmapmaaGreatDoor.SX
