/- Walks of functions, written by the session's own program wip/sx/sxgen.py; Lean checks them. -/
import Derived.Test.YtfkmcdkncmapmaaGreatDoorY02
import Derived.Test.YtfkmcdkncmapmaaGreatDoorY37
import Derived.Test.YtfkmcdkncmapmaaGreatDoorProg
set_option linter.unusedVariables false
set_option linter.unusedSimpArgs false
set_option maxRecDepth 100000
set_option maxHeartbeats 2000000
namespace Go.Proofs.YtfkmcdkncmapmaaGreatDoor
open Go Go.RowKit
theorem SX.run_idx_array0 {P : Program} {w : World} {T E : TypeId} {n : Nat} {k : IntKind} {b i : Nat} (hu : P.underlying T = some (.array n E)) (hs : (sizeOf E).run P w = .ok 1 w) (hi : i < n) :
 (SX.semIdx T (.pointer (some ⟨b, 0, none⟩)) (.int k (i : Int))).run P w = .ok (.value (.pointer (some ⟨b, i, none⟩))) w := by
 have := SX.run_idx_array (P := P) (w := w) (T := T) (E := E) (sz := 1) (n := n) (k := k) (b := b) (off := 0) (i := i) hu hs hi
 simpa using this
def restM (n b : Int) : Nat := (restN n b).toNat
theorem restM_calls (n : Int) (b : Int)  (w0 : World) (hb : 0 < b) (hb2 : b ≤ 4096) : SX.Gives Tryz.prog 161 #[.int .i64 n, .int .i64 b] w0 (.int .i64 ((restM n b : Nat) : Int)) := by
 have h := rest_calls n b w0 hb hb2
 rw [← Int.toNat_of_nonneg (restN_bd n b hb).1] at h
 exact h
theorem restM_lt (n b : Int) (hb : 0 < b) : ((restM n b : Nat) : Int) < b := by
 rw [restM, Int.toNat_of_nonneg (restN_bd n b hb).1]
 exact (restN_bd n b hb).2
namespace D
def gN (l : List Int) (i : Nat) : Int := l.getD i 0
def tabN (l : List Nat) (i : Nat) : Nat := l.getD i 0
def orA (l : List Int) : Nat := tabN [0, 1, 510, 511] (restM (gN l 3) 4) * 2 ^ (min 18 64) % 18446744073709551616 ||| tabN [0, 1, 2, 511] (restM (gN l 4) 4) * 2 ^ (min 9 64) % 18446744073709551616
def orB (l : List Int) : Nat := orA l ||| restM (gN l 5) 512
def pageN (l : List Int) : Nat := ofN (orB l)
theorem mod_lt_u (x : Nat) : x % 18446744073709551616 < 18446744073709551616 := Nat.mod_lt _ kc
theorem orA_lt (l : List Int) : orA l < 18446744073709551616 := Nat.or_lt_two_pow (n := 64) (mod_lt_u _) (mod_lt_u _)
def vaN (l : List Int) : Nat :=
 if ((restM (gN l 0) 11 : Nat) : Int) = 3 ∨ ((restM (gN l 0) 11 : Nat) : Int) = 4 ∨ ((restM (gN l 0) 11 : Nat) : Int) = 5 then baseN (pageN l) ((restM (gN l 2) 3 : Nat) : Int) else (pageN l + restM (gN l 6) 4096) % 18446744073709551616
def sizN (l : List Int) : Int := if ((restM (gN l 0) 11 : Nat) : Int) = 9 then ((restM (gN l 8) 4 : Nat) : Int) else IntKind.i64.wrap (1 * 2 ^ (min (Int.toNat ((restM (gN l 8) 4 : Nat) : Int)) IntKind.i64.bits))
def oneN (l : List Int) : Op := ⟨((restM (gN l 0) 11 : Nat) : Int), ((restM (gN l 1) 5 : Nat) : Int) - 1, vaN l, restM (gN l 7) 8 * sizeN ((restM (gN l 2) 3 : Nat) : Int) % 18446744073709551616, ((restM (gN l 2) 3 : Nat) : Int), permN (restM (gN l 8) 16), ((restM (gN l 8) 3 : Nat) : Int), sizN l, (IntKind.u64.wrap (gN l 9)).toNat⟩
end D
theorem tab_cell {w : World} {b : Nat} {l : List Nat} {T : TypeId} {fr : Nat × Nat} (i : Nat) (hi : i < l.length) (h : w.heap[b]? = some (.cells (l.map fun x => .int .u64 ((x : Nat) : Int)).toArray T fr)) : w.cell? ⟨b, i, none⟩ = some (.int .u64 ((D.tabN l i : Nat) : Int)) := by
 have h2 : (l.map fun x => (Value.int .u64 ((x : Nat) : Int)))[i]? = some (.int .u64 ((D.tabN l i : Nat) : Int)) := by
  rw [List.getElem?_map, List.getElem?_eq_getElem hi]
  simp [D.tabN, List.getD, List.getElem?_eq_getElem hi]
 simp only [World.cell?, h]
 simpa using h2
theorem wrap_val (x : Int) : Value.int .u64 (IntKind.u64.wrap x) = .int .u64 (((IntKind.u64.wrap x).toNat : Nat) : Int) := by
 have h : 0 ≤ IntKind.u64.wrap x := by
  show 0 ≤ x % 18446744073709551616
  omega
 rw [Int.toNat_of_nonneg h]
theorem u_addm (a b : Nat) : Value.int .u64 (IntKind.u64.wrap ((a : Int) + (b : Int))) = .int .u64 (((a + b) % 18446744073709551616 : Nat) : Int) := by
 have h : IntKind.u64.wrap ((a : Int) + (b : Int)) = ((a : Int) + (b : Int)) % 18446744073709551616 := rfl
 rw [h]
 congr 1
theorem u_mulm (a b : Nat) : Value.int .u64 (IntKind.u64.wrap ((a : Int) * (b : Int))) = .int .u64 ((a * b % 18446744073709551616 : Nat) : Int) := by
 have h : IntKind.u64.wrap ((a : Int) * (b : Int)) = ((a : Int) * (b : Int)) % 18446744073709551616 := rfl
 rw [h]
 congr 1
theorem one_split {k : Int} {a b c : Int} (h3 : (k == a) = false) (h4 : (k == b) = false) (h5 : (k == c) = false) : ¬ (k = a ∨ k = b ∨ k = c) := by simp at h3 h4 h5; omega
theorem D.ints_len : ∀ l : List Int, (l.flatMap D.int1).length = l.length
 | [] => rfl
 | x :: l => by rw [List.flatMap_cons, List.length_append, D.ints_len l, List.length_cons]; show 1 + _ = _; omega
theorem D.int1_one (l : List Int) : ∀ u ∈ l.flatMap D.int1, u.oneCell' = true := fun u hu => by
 obtain ⟨x, _, hx⟩ := List.mem_flatMap.1 hu
 simp only [D.int1, List.mem_singleton] at hx
 subst hx
 rfl
theorem one_over (l : List Int) (h : l.length ≤ 10) : (SX.over (List.replicate 10 (.int .i64 0)) 0 (l.flatMap D.int1)).toArray = #[.int .i64 (D.gN l 0), .int .i64 (D.gN l 1), .int .i64 (D.gN l 2), .int .i64 (D.gN l 3), .int .i64 (D.gN l 4), .int .i64 (D.gN l 5), .int .i64 (D.gN l 6), .int .i64 (D.gN l 7), .int .i64 (D.gN l 8), .int .i64 (D.gN l 9)] := by
 rcases l with _ | ⟨a0, _ | ⟨a1, _ | ⟨a2, _ | ⟨a3, _ | ⟨a4, _ | ⟨a5, _ | ⟨a6, _ | ⟨a7, _ | ⟨a8, _ | ⟨a9, _ | ⟨a10, l⟩⟩⟩⟩⟩⟩⟩⟩⟩⟩⟩ <;> first | rfl | (simp at h)
theorem one_calls (raw : List Int)  {no : List Nat} (s1 : SX.Sl) (w0 : World) (hno : ∀ b ∈ no, b < w0.heap.size) (hs1 : (D.isF s1 raw).P w0 no) (hL : Ld w0) (hl : raw.length ≤ 10) : SX.Gives Tryz.prog 119 #[.slice s1.a s1.n s1.c] w0 ((D.Op.enc (D.oneN raw))) := by
 refine SX.enterN (args := [.slice s1.a s1.n s1.c]) (hno := hno) 87 Tryz.func119 rfl kr fun ac A H => ?_
 have H := H.known (D.isF s1 raw) hs1
 obtain ⟨Ttwos, ftwos, hTtwos⟩ := hL.twos
 have H := H.fb_old hTtwos
 obtain ⟨Tones, fones, hTones⟩ := hL.ones
 have H := H.fb_old hTones
 have hr011 := restM_lt (D.gN raw 0) 11 kc
 have hr15 := restM_lt (D.gN raw 1) 5 kc
 have hr23 := restM_lt (D.gN raw 2) 3 kc
 have hr34 := restM_lt (D.gN raw 3) 4 kc
 have hr44 := restM_lt (D.gN raw 4) 4 kc
 have hr5512 := restM_lt (D.gN raw 5) 512 kc
 have hr64096 := restM_lt (D.gN raw 6) 4096 kc
 have hr78 := restM_lt (D.gN raw 7) 8 kc
 have hr83 := restM_lt (D.gN raw 8) 3 kc
 have hr84 := restM_lt (D.gN raw 8) 4 kc
 have hr816 := restM_lt (D.gN raw 8) 16 kc
 refine XS (XR (Xb [0] A H fun ac w A H => XD (XT (XS (XR (Xb [0] A H fun ac w A H => XD (XT (XS (XR (Xb [0, 0] A H fun ac w A H => ?_))))))))))
 have hsr := H.fact' 0 (D.isF s1 raw) kr
 have hcnt := SX.SlAt.count (f := D.int1) (sz := 1) (fun _ => rfl) kc hsr
 have hsrc := SX.SlAt.src (P := Tryz.prog) hsr (tx := 24) (e' := 3) Tryz.underlying24 (D.int1_one raw)
 have hbk := H.has (SX.bb H 1, .cells (List.replicate 10 (.int .i64 0)).toArray 146 (0, 0)) (List.mem_of_getElem? (i := 1) kr)
 have hrun := SX.run_copyN (P := Tryz.prog) (w := w) (dT := 24) (sT := 24) (ty := 3) (elem := 3) (i := Tryz.t3) Tryz.underlying24 kr (b := SX.bb H 1) (o := 0) (dLen := 10) (dCap := 10) (x := s1.v) (sLen := s1.n) (news := raw.flatMap D.int1) s1.n hsrc.len (by rw [hcnt]; exact Nat.min_eq_left hl) hsrc.cells hsrc.one hbk (by rw [D.ints_len, List.length_replicate]; omega)
 have H := H.setRow (j := 1) (B := SX.bb H 1) (cs := (List.replicate 10 (.int .i64 0)).toArray) (E := 146) kr (SX.over (List.replicate 10 (.int .i64 0)) 0 (raw.flatMap D.int1)).toArray
 refine SX.given A hrun kr kr fun ac A => ?_
 have H := H.re 1 (SX.bb H 1) (.cells (SX.over (List.replicate 10 (.int .i64 0)) 0 (raw.flatMap D.int1)).toArray 146 (0, 0)) (.cells #[.int .i64 (D.gN raw 0), .int .i64 (D.gN raw 1), .int .i64 (D.gN raw 2), .int .i64 (D.gN raw 3), .int .i64 (D.gN raw 4), .int .i64 (D.gN raw 5), .int .i64 (D.gN raw 6), .int .i64 (D.gN raw 7), .int .i64 (D.gN raw 8), .int .i64 (D.gN raw 9)] 146 (0, 0)) kr (by rw [one_over raw hl])
 generalize World.setRow _ (SX.bb H 1) _ = w at H ⊢
 refine XD (XT (XS (SX.drawn 27 [1] kr A H fun w H => SX.takes [1] [(0, none), (1, some 0), (3, none), (4, some 0), (7, none), (8, some 0), (10, none), (11, some 0), (13, none), (14, some 0), (17, none), (18, some 0), (21, none), (22, some 0), (23, none)] A H kr kd kr kr kr (Or.inl kr) fun ac A => ?_)))
 have A := A.re 32 (.int .u64 (IntKind.u64.wrap (D.gN raw 9))) (.int .u64 ((((IntKind.u64.wrap (D.gN raw 9)).toNat : Nat) : Int))) kr (wrap_val _)
 let B0 := SX.bb H 0
 let B1 := SX.bb H 1
 refine SX.joinD (fun ac w => ∃ B2 : Nat, SX.Agrees 87 ac [(2, .pointer (some ⟨B0, 0, none⟩)), (3, .pointer (some ⟨B1, 0, none⟩)), (4, .pointer (some ⟨B2, 0, none⟩)), (33, (D.Op.enc (⟨((restM (D.gN raw 0) 11 : Nat) : Int), (((restM (D.gN raw 1) 5 : Nat) : Int) - 1), 0, 0, ((restM (D.gN raw 2) 3 : Nat) : Int), (permN ((restM (D.gN raw 8) 16 : Nat) : Int).toNat), ((restM (D.gN raw 8) 3 : Nat) : Int), IntKind.i64.wrap (1 * 2 ^ (min (Int.toNat ((restM (D.gN raw 8) 4 : Nat) : Int)) IntKind.i64.bits)), (IntKind.u64.wrap (D.gN raw 9)).toNat⟩ : D.Op)))] ∧ SX.Own w0 w [(B0, .cells (D.Op.cs (⟨0, 0, 0, 0, 0, (⟨false, false, false, false⟩ : D.Perm), 0, 0, 0⟩ : D.Op)) 68 (0, 0)), (B1, .cells #[.int .i64 (D.gN raw 0), .int .i64 (D.gN raw 1), .int .i64 (D.gN raw 2), .int .i64 (D.gN raw 3), .int .i64 (D.gN raw 4), .int .i64 (D.gN raw 5), .int .i64 (D.gN raw 6), .int .i64 (D.gN raw 7), .int .i64 (D.gN raw 8), .int .i64 (D.gN raw 9)] 146 (0, 0)), (B2, .cells (D.Op.cs (⟨0, 0, 0, 0, 0, (⟨false, false, false, false⟩ : D.Perm), 0, 0, 0⟩ : D.Op)) 68 (0, 0))] ⟨[(D.isF s1 raw)], (SX.roOf H).fb, (SX.roOf H).no⟩) 1 (SX.msk 27 67108863) ?_ (fun hJ1 => ?_)
 · rintro ac w ⟨B2, A, H⟩
   refine SX.act 26 2 [1] A H kr kr kr (Or.inl kr) fun ac w A H => ?_
   refine SX.doneD kr ?_ _
   refine XT (XS (SX.drawn 20 [1] kr A H fun w H => SX.takes [1] [(0, none), (1, some 0), (6, none), (7, some 0), (13, none), (14, some 0)] A H kr kd kr kr kr (Or.inl kr) fun ac A => SX.callGD 2 [1] A H (restM_calls (D.gN raw 3) 4 w ko ko) kr kr kr kr (Or.inl kr) fun ac w A H => SX.takeG 3 [1] A H kr kd (fun w HK => SX.run_idx_array0 (P := Tryz.prog) (w := w) (T := 236) (E := 27) (n := 4) (k := .i64) (b := 2) (i := restM (D.gN raw 3) 4) kr kr ko) kr kr kr kr kr fun ac A => SX.takeG 4 [1] A H kr kd (fun w HK => SX.run_load1 (P := Tryz.prog) (T := 27) (b := 2) (o := restM (D.gN raw 3) 4) (v := .int .u64 ((((D.tabN [0, 1, 510, 511] (restM (D.gN raw 3) 4)) : Nat) : Int))) kr (tab_cell (restM (D.gN raw 3) 4) (show _ < 4 by omega) (HK.2.1 (2, .cells #[.int .u64 0, .int .u64 1, .int .u64 510, .int .u64 511] Ttwos ftwos) (List.mem_of_getElem? (i := 0) kr)))) kr kr kr kr kr fun ac A => SX.takes [1] [(5, none)] A H kr kd kr kr kr (Or.inl kr) fun ac A => ?_))
   have A := A.re 39 (.int .u64 (IntKind.u64.wrap ((((D.tabN [0, 1, 510, 511] (restM (D.gN raw 3) 4)) : Nat) : Int) * 2 ^ (min (Int.toNat 18) IntKind.u64.bits)))) (.int .u64 (((((D.tabN [0, 1, 510, 511] (restM (D.gN raw 3) 4)) * 2 ^ (min 18 64) % 18446744073709551616) : Nat) : Int))) kr (Bits.u_shl (D.tabN [0, 1, 510, 511] (restM (D.gN raw 3) 4)) 18)
   refine SX.callGD 8 [1] A H (restM_calls (D.gN raw 4) 4 w ko ko) kr kr kr kr (Or.inl kr) fun ac w A H => SX.takeG 9 [1] A H kr kd (fun w HK => SX.run_idx_array0 (P := Tryz.prog) (w := w) (T := 236) (E := 27) (n := 4) (k := .i64) (b := 3) (i := restM (D.gN raw 4) 4) kr kr ko) kr kr kr kr kr fun ac A => SX.takeG 10 [1] A H kr kd (fun w HK => SX.run_load1 (P := Tryz.prog) (T := 27) (b := 3) (o := restM (D.gN raw 4) 4) (v := .int .u64 ((((D.tabN [0, 1, 2, 511] (restM (D.gN raw 4) 4)) : Nat) : Int))) kr (tab_cell (restM (D.gN raw 4) 4) (show _ < 4 by omega) (HK.2.1 (3, .cells #[.int .u64 0, .int .u64 1, .int .u64 2, .int .u64 511] Tones fones) (List.mem_of_getElem? (i := 1) kr)))) kr kr kr kr kr fun ac A => SX.takes [1] [(11, none)] A H kr kd kr kr kr (Or.inl kr) fun ac A => ?_
   have A := A.re 45 (.int .u64 (IntKind.u64.wrap ((((D.tabN [0, 1, 2, 511] (restM (D.gN raw 4) 4)) : Nat) : Int) * 2 ^ (min (Int.toNat 9) IntKind.u64.bits)))) (.int .u64 (((((D.tabN [0, 1, 2, 511] (restM (D.gN raw 4) 4)) * 2 ^ (min 9 64) % 18446744073709551616) : Nat) : Int))) kr (Bits.u_shl (D.tabN [0, 1, 2, 511] (restM (D.gN raw 4) 4)) 9)
   refine SX.takes [1] [(12, none)] A H kr kd kr kr kr (Or.inl kr) fun ac A => ?_
   have A := A.re 46 (.int .u64 (IntKind.u64.wrap (((BitVec.ofInt IntKind.u64.bits ((((D.tabN [0, 1, 510, 511] (restM (D.gN raw 3) 4)) * 2 ^ (min 18 64) % 18446744073709551616) : Nat) : Int) ||| BitVec.ofInt IntKind.u64.bits ((((D.tabN [0, 1, 2, 511] (restM (D.gN raw 4) 4)) * 2 ^ (min 9 64) % 18446744073709551616) : Nat) : Int)).toNat : Nat) : Int))) (.int .u64 ((((D.orA raw) : Nat) : Int))) kr (Bits.u_or _ _ (D.mod_lt_u _) (D.mod_lt_u _))
   refine SX.callGD 15 [1] A H (restM_calls (D.gN raw 5) 512 w ko ko) kr kr kr kr (Or.inl kr) fun ac w A H => SX.takes [1] [(16, none)] A H kr kd kr kr kr (Or.inl kr) fun ac A => ?_
   have A := A.re 50 (.int .u64 (IntKind.u64.wrap (((restM (D.gN raw 5) 512 : Nat) : Int)))) (.int .u64 (((restM (D.gN raw 5) 512 : Nat) : Int))) kr (SX.u_in _ ko)
   refine SX.takes [1] [(17, none)] A H kr kd kr kr kr (Or.inl kr) fun ac A => ?_
   have A := A.re 51 (.int .u64 (IntKind.u64.wrap (((BitVec.ofInt IntKind.u64.bits (((D.orA raw) : Nat) : Int) ||| BitVec.ofInt IntKind.u64.bits ((restM (D.gN raw 5) 512 : Nat) : Int)).toNat : Nat) : Int))) (.int .u64 ((((D.orB raw) : Nat) : Int))) kr (Bits.u_or _ _ (D.orA_lt raw) ko)
   refine SX.callGD 18 [1] A H (Of_calls (D.orB raw) w) kr kr kr kr (Or.inl kr) fun ac w A H => SX.takes [1] [(19, none)] A H kr kd kr kr kr (Or.inl kr) fun ac A => ?_
   refine SX.doneD kr ?_ _
   refine XT (XS (SX.drawn 17 [1] kr A H fun w H => SX.takes [1] [(0, none), (1, none), (2, some 0), (6, none), (7, some 0), (10, none)] A H kr kd kr kr kr (Or.inl kr) fun ac A => ?_))
   let B0 := SX.bb H 0
   let B1 := SX.bb H 1
   let B2 := SX.bb H 2
   refine SX.joinD (fun ac w => SX.Agrees 87 ac [(2, .pointer (some ⟨B0, 0, none⟩)), (3, .pointer (some ⟨B1, 0, none⟩)), (4, .pointer (some ⟨B2, 0, none⟩)), (5, .int .u64 (((ofN (D.orB raw) : Nat) : Int))), (58, .int .u64 (((((D.pageN raw + restM (D.gN raw 6) 4096) % 18446744073709551616) : Nat) : Int))), (62, .int .u64 (((restM (D.gN raw 7) 8 : Nat) : Int))), (64, .int .i64 (((restM (D.gN raw 2) 3 : Nat) : Int))), (67, .pointer (some ⟨B2, 2, none⟩))] ∧ SX.Own w0 w [(B0, .cells (D.Op.cs (⟨0, 0, 0, 0, 0, (⟨false, false, false, false⟩ : D.Perm), 0, 0, 0⟩ : D.Op)) 68 (0, 0)), (B1, .cells #[.int .i64 (D.gN raw 0), .int .i64 (D.gN raw 1), .int .i64 (D.gN raw 2), .int .i64 (D.gN raw 3), .int .i64 (D.gN raw 4), .int .i64 (D.gN raw 5), .int .i64 (D.gN raw 6), .int .i64 (D.gN raw 7), .int .i64 (D.gN raw 8), .int .i64 (D.gN raw 9)] 146 (0, 0)), (B2, .cells (D.Op.cs (⟨((restM (D.gN raw 0) 11 : Nat) : Int), (((restM (D.gN raw 1) 5 : Nat) : Int) - 1), 0, 0, ((restM (D.gN raw 2) 3 : Nat) : Int), (permN ((restM (D.gN raw 8) 16 : Nat) : Int).toNat), ((restM (D.gN raw 8) 3 : Nat) : Int), IntKind.i64.wrap (1 * 2 ^ (min (Int.toNat ((restM (D.gN raw 8) 4 : Nat) : Int)) IntKind.i64.bits)), (IntKind.u64.wrap (D.gN raw 9)).toNat⟩ : D.Op)) 68 (0, 0))] ⟨[(D.isF s1 raw)], (SX.roOf H).fb, (SX.roOf H).no⟩) 5 (SX.msk 18 20479) ?_ (fun hJ2 => ?_)
   · rintro ac w ⟨A, H⟩
     refine SX.callGD 12 [1] A H (Size_calls ((restM (D.gN raw 2) 3 : Nat) : Int) w (hL.below H.below) ko) kr kr kr kr (Or.inl kr) fun ac w A H => SX.takes [1] [(13, none)] A H kr kd kr kr kr (Or.inl kr) fun ac A => ?_
     have A := A.re 66 (.int .u64 (IntKind.u64.wrap (((restM (D.gN raw 7) 8 : Nat) : Int) * ((sizeN ((restM (D.gN raw 2) 3 : Nat) : Int) : Nat) : Int)))) (.int .u64 ((((restM (D.gN raw 7) 8 * sizeN ((restM (D.gN raw 2) 3 : Nat) : Int) % 18446744073709551616) : Nat) : Int))) kr (u_mulm _ _)
     refine SX.act 15 2 [1] A H kr kr kr (Or.inl kr) fun ac w A H => SX.takes [1] [(16, none)] A H kr kd kr kr kr (Or.inl kr) fun ac A => SX.act 17 2 [1] A H kr kr kr (Or.inr kr) fun ac w A H => ?_
     refine SX.doneD kr ?_ _
     refine XT (XS (XS (XR (Xb [0, 2] A H fun ac w A H => XD (XT (XB (XS (XS (XR (Xb [0, 0] A H fun ac w A H => XD (XT ?_)))))))))))
     refine Xs (((restM (D.gN raw 0) 11 : Nat) : Int) == 3) (fun h1 => ?_) fun h1 => ?_
     ·
      have A := A.rb 71 h1
      have h1p : ((restM (D.gN raw 0) 11 : Nat) : Int) = 3 := kp h1
      refine Xt A (XK (XT (Xt A (XR (Xb [0, 0, 2] A H fun ac w A H => Xc A H (Base_calls (ofN (D.orB raw)) ((restM (D.gN raw 2) 3 : Nat) : Int) w (hL.below H.below) (show ofN _ < _ from D.ofN_lt _) ko) fun ac w A H => Xb [0, 2] A H fun ac w A H => XD (XN (XT (XS (XR (Xb [2, 0] A H fun ac w A H => XD (XT (XW (Xr [0] ((D.Op.enc (⟨((restM (D.gN raw 0) 11 : Nat) : Int), (((restM (D.gN raw 1) 5 : Nat) : Int) - 1), baseN (ofN (D.orB raw)) ((restM (D.gN raw 2) 3 : Nat) : Int), (restM (D.gN raw 7) 8 * sizeN ((restM (D.gN raw 2) 3 : Nat) : Int) % 18446744073709551616), ((restM (D.gN raw 2) 3 : Nat) : Int), (permN ((restM (D.gN raw 8) 16 : Nat) : Int).toNat), ((restM (D.gN raw 8) 3 : Nat) : Int), IntKind.i64.wrap (1 * 2 ^ (min (Int.toNat ((restM (D.gN raw 8) 4 : Nat) : Int)) IntKind.i64.bits)), (IntKind.u64.wrap (D.gN raw 9)).toNat⟩ : D.Op))) A H ?_)))))))))))))
      rw [D.oneN, D.vaN, D.sizN, if_pos (show _ ∨ _ ∨ _ by simp at h1; omega), if_neg (show ¬ _ by simp at h1; omega)] <;> rfl
     ·
      have A := A.rb 71 h1
      have h1p : ¬ (((restM (D.gN raw 0) 11 : Nat) : Int) = 3) := kp h1
      refine Xf A (XS (XR (Xb [0, 0] A H fun ac w A H => XD (XT ?_))))
      refine Xs (((restM (D.gN raw 0) 11 : Nat) : Int) == 4) (fun h2 => ?_) fun h2 => ?_
      ·
       have A := A.rb 71 h2
       have h2p : ((restM (D.gN raw 0) 11 : Nat) : Int) = 4 := kp h2
       refine Xt A (XK (XT (Xt A (XR (Xb [0, 0, 2] A H fun ac w A H => Xc A H (Base_calls (ofN (D.orB raw)) ((restM (D.gN raw 2) 3 : Nat) : Int) w (hL.below H.below) (show ofN _ < _ from D.ofN_lt _) ko) fun ac w A H => Xb [0, 2] A H fun ac w A H => XD (XN (XT (XS (XR (Xb [2, 0] A H fun ac w A H => XD (XT (XW (Xr [0] ((D.Op.enc (⟨((restM (D.gN raw 0) 11 : Nat) : Int), (((restM (D.gN raw 1) 5 : Nat) : Int) - 1), baseN (ofN (D.orB raw)) ((restM (D.gN raw 2) 3 : Nat) : Int), (restM (D.gN raw 7) 8 * sizeN ((restM (D.gN raw 2) 3 : Nat) : Int) % 18446744073709551616), ((restM (D.gN raw 2) 3 : Nat) : Int), (permN ((restM (D.gN raw 8) 16 : Nat) : Int).toNat), ((restM (D.gN raw 8) 3 : Nat) : Int), IntKind.i64.wrap (1 * 2 ^ (min (Int.toNat ((restM (D.gN raw 8) 4 : Nat) : Int)) IntKind.i64.bits)), (IntKind.u64.wrap (D.gN raw 9)).toNat⟩ : D.Op))) A H ?_)))))))))))))
       rw [D.oneN, D.vaN, D.sizN, if_pos (show _ ∨ _ ∨ _ by simp at h2; omega), if_neg (show ¬ _ by simp at h2; omega)] <;> rfl
      ·
       have A := A.rb 71 h2
       have h2p : ¬ (((restM (D.gN raw 0) 11 : Nat) : Int) = 4) := kp h2
       refine Xf A (XR (Xb [0, 0] A H fun ac w A H => XD (XT ?_)))
       refine Xs (((restM (D.gN raw 0) 11 : Nat) : Int) == 5) (fun h3 => ?_) fun h3 => ?_
       ·
        have A := A.rb 71 h3
        have h3p : ((restM (D.gN raw 0) 11 : Nat) : Int) = 5 := kp h3
        refine Xt A (XR (Xb [0, 0, 2] A H fun ac w A H => Xc A H (Base_calls (ofN (D.orB raw)) ((restM (D.gN raw 2) 3 : Nat) : Int) w (hL.below H.below) (show ofN _ < _ from D.ofN_lt _) ko) fun ac w A H => Xb [0, 2] A H fun ac w A H => XD (XN (XT (XS (XR (Xb [2, 0] A H fun ac w A H => XD (XT (XW (Xr [0] ((D.Op.enc (⟨((restM (D.gN raw 0) 11 : Nat) : Int), (((restM (D.gN raw 1) 5 : Nat) : Int) - 1), baseN (ofN (D.orB raw)) ((restM (D.gN raw 2) 3 : Nat) : Int), (restM (D.gN raw 7) 8 * sizeN ((restM (D.gN raw 2) 3 : Nat) : Int) % 18446744073709551616), ((restM (D.gN raw 2) 3 : Nat) : Int), (permN ((restM (D.gN raw 8) 16 : Nat) : Int).toNat), ((restM (D.gN raw 8) 3 : Nat) : Int), IntKind.i64.wrap (1 * 2 ^ (min (Int.toNat ((restM (D.gN raw 8) 4 : Nat) : Int)) IntKind.i64.bits)), (IntKind.u64.wrap (D.gN raw 9)).toNat⟩ : D.Op))) A H ?_))))))))))
        rw [D.oneN, D.vaN, D.sizN, if_pos (show _ ∨ _ ∨ _ by simp at h3; omega), if_neg (show ¬ _ by simp at h3; omega)] <;> rfl
       ·
        have A := A.rb 71 h3
        have h3p : ¬ (((restM (D.gN raw 0) 11 : Nat) : Int) = 5) := kp h3
        refine Xf A (XS (XR (Xb [0, 0] A H fun ac w A H => XD (XT ?_))))
        refine Xs (((restM (D.gN raw 0) 11 : Nat) : Int) == 9) (fun h4 => ?_) fun h4 => ?_
        ·
         have A := A.rb 80 h4
         have h4p : ((restM (D.gN raw 0) 11 : Nat) : Int) = 9 := kp h4
         refine Xt A (XR (Xb [0, 1] A H fun ac w A H => Xc A H (restM_calls (D.gN raw 8) 4 w ko ko) fun ac w A H => Xb [0, 2] A H fun ac w A H => XD (XN (XT (XS (XR (Xb [2, 0] A H fun ac w A H => XD (XT (XW (Xr [0] ((D.Op.enc (⟨((restM (D.gN raw 0) 11 : Nat) : Int), (((restM (D.gN raw 1) 5 : Nat) : Int) - 1), ((D.pageN raw + restM (D.gN raw 6) 4096) % 18446744073709551616), (restM (D.gN raw 7) 8 * sizeN ((restM (D.gN raw 2) 3 : Nat) : Int) % 18446744073709551616), ((restM (D.gN raw 2) 3 : Nat) : Int), (permN ((restM (D.gN raw 8) 16 : Nat) : Int).toNat), ((restM (D.gN raw 8) 3 : Nat) : Int), ((restM (D.gN raw 8) 4 : Nat) : Int), (IntKind.u64.wrap (D.gN raw 9)).toNat⟩ : D.Op))) A H ?_))))))))))
         rw [D.oneN, D.vaN, D.sizN, if_neg (one_split h1 h2 h3), if_pos (by simpa using h4)] <;> rfl
        ·
         have A := A.rb 80 h4
         have h4p : ¬ (((restM (D.gN raw 0) 11 : Nat) : Int) = 9) := kp h4
         refine Xf A (XK (XN (XT (XS (XR (Xb [2, 0] A H fun ac w A H => XD (XT (XW (Xr [0] ((D.Op.enc (⟨((restM (D.gN raw 0) 11 : Nat) : Int), (((restM (D.gN raw 1) 5 : Nat) : Int) - 1), ((D.pageN raw + restM (D.gN raw 6) 4096) % 18446744073709551616), (restM (D.gN raw 7) 8 * sizeN ((restM (D.gN raw 2) 3 : Nat) : Int) % 18446744073709551616), ((restM (D.gN raw 2) 3 : Nat) : Int), (permN ((restM (D.gN raw 8) 16 : Nat) : Int).toNat), ((restM (D.gN raw 8) 3 : Nat) : Int), IntKind.i64.wrap (1 * 2 ^ (min (Int.toNat ((restM (D.gN raw 8) 4 : Nat) : Int)) IntKind.i64.bits)), (IntKind.u64.wrap (D.gN raw 9)).toNat⟩ : D.Op))) A H ?_)))))))))
         rw [D.oneN, D.vaN, D.sizN, if_neg (one_split h1 h2 h3), if_neg (by simpa using h4)] <;> rfl
   refine SX.joinD (fun ac w => SX.Agrees 87 ac [(2, .pointer (some ⟨B0, 0, none⟩)), (3, .pointer (some ⟨B1, 0, none⟩)), (4, .pointer (some ⟨B2, 0, none⟩)), (5, .int .u64 (((ofN (D.orB raw) : Nat) : Int))), (58, .int .u64 (((((D.pageN raw + restM (D.gN raw 6) 4096) % 18446744073709551616) : Nat) : Int))), (60, .int .i64 (D.gN raw 7)), (64, .int .i64 (((restM (D.gN raw 2) 3 : Nat) : Int))), (67, .pointer (some ⟨B2, 2, none⟩))] ∧ SX.Own w0 w [(B0, .cells (D.Op.cs (⟨0, 0, 0, 0, 0, (⟨false, false, false, false⟩ : D.Perm), 0, 0, 0⟩ : D.Op)) 68 (0, 0)), (B1, .cells #[.int .i64 (D.gN raw 0), .int .i64 (D.gN raw 1), .int .i64 (D.gN raw 2), .int .i64 (D.gN raw 3), .int .i64 (D.gN raw 4), .int .i64 (D.gN raw 5), .int .i64 (D.gN raw 6), .int .i64 (D.gN raw 7), .int .i64 (D.gN raw 8), .int .i64 (D.gN raw 9)] 146 (0, 0)), (B2, .cells (D.Op.cs (⟨((restM (D.gN raw 0) 11 : Nat) : Int), (((restM (D.gN raw 1) 5 : Nat) : Int) - 1), 0, 0, ((restM (D.gN raw 2) 3 : Nat) : Int), (permN ((restM (D.gN raw 8) 16 : Nat) : Int).toNat), ((restM (D.gN raw 8) 3 : Nat) : Int), IntKind.i64.wrap (1 * 2 ^ (min (Int.toNat ((restM (D.gN raw 8) 4 : Nat) : Int)) IntKind.i64.bits)), (IntKind.u64.wrap (D.gN raw 9)).toNat⟩ : D.Op)) 68 (0, 0))] ⟨[(D.isF s1 raw)], (SX.roOf H).fb, (SX.roOf H).no⟩) 7 (SX.msk 18 19711) ?_ (fun hJ3 => ?_)
   · rintro ac w ⟨A, H⟩
     refine SX.callGD 8 [1] A H (restM_calls (D.gN raw 7) 8 w ko ko) kr kr kr kr (Or.inl kr) fun ac w A H => SX.takes [1] [(9, none)] A H kr kd kr kr kr (Or.inl kr) fun ac A => ?_
     have A := A.re 62 (.int .u64 (IntKind.u64.wrap (((restM (D.gN raw 7) 8 : Nat) : Int)))) (.int .u64 (((restM (D.gN raw 7) 8 : Nat) : Int))) kr (SX.u_in _ ko)
     exact SX.useD hJ2 kr kr ⟨A.sub _ kr, (H.pick [0, 1, 2] _ kc kr).ro_pick [0] _ kr⟩
   refine SX.many 3 [11] kr kr (SX.allC_cons ?_ (SX.allC_cons ?_ SX.allC_nil))
   ·
    refine SX.callGD_op 3 [1] A H (restM_calls (D.gN raw 6) 4096 w ko ko) kr kr (Or.inl kr) fun ac w A H => SX.takes [1] [(4, none)] A H kr kd kr kr kr (Or.inl kr) fun ac A => ?_
    have A := A.re 57 (.int .u64 (IntKind.u64.wrap (((restM (D.gN raw 6) 4096 : Nat) : Int)))) (.int .u64 (((restM (D.gN raw 6) 4096 : Nat) : Int))) kr (SX.u_in _ ko)
    refine SX.takes [1] [(5, none)] A H kr kd kr kr kr (Or.inl kr) fun ac A => ?_
    have A := A.re 58 (.int .u64 (IntKind.u64.wrap (((ofN (D.orB raw) : Nat) : Int) + ((restM (D.gN raw 6) 4096 : Nat) : Int)))) (.int .u64 (((((D.pageN raw + restM (D.gN raw 6) 4096) % 18446744073709551616) : Nat) : Int))) kr (u_addm _ _)
    refine SX.many 8 [11] kr kr (SX.allC_cons ?_ (SX.allC_cons ?_ SX.allC_nil))
    ·
     refine SX.callGD_op 8 [1] A H (restM_calls (D.gN raw 7) 8 w ko ko) kr kr (Or.inl kr) fun ac w A H => SX.takes [1] [(9, none)] A H kr kd kr kr kr (Or.inl kr) fun ac A => ?_
     have A := A.re 62 (.int .u64 (IntKind.u64.wrap (((restM (D.gN raw 7) 8 : Nat) : Int)))) (.int .u64 (((restM (D.gN raw 7) 8 : Nat) : Int))) kr (SX.u_in _ ko)
     refine SX.act 11 2 [1] A H kr kr kr (Or.inl kr) fun ac w A H => SX.takes [1] [(14, none)] A H kr kd kr kr kr (Or.inl kr) fun ac A => ?_
     exact SX.useD hJ2 kr kr ⟨A.sub _ kr, (H.pick [0, 1, 2] _ kc kr).ro_pick [0] _ kr⟩
    ·
     refine SX.act_op 11 2 [1] A H kr (Or.inl kr) fun ac w A H => SX.takes [1] [(14, none)] A H kr kd kr kr kr (Or.inl kr) fun ac A => ?_
     exact SX.useD hJ3 kr kr ⟨A.sub _ kr, (H.pick [0, 1, 2] _ kc kr).ro_pick [0] _ kr⟩
   ·
    refine SX.act_op 11 2 [1] A H kr (Or.inl kr) fun ac w A H => SX.callGD 3 [1] A H (restM_calls (D.gN raw 6) 4096 w ko ko) kr kr kr kr (Or.inl kr) fun ac w A H => SX.takes [1] [(4, none)] A H kr kd kr kr kr (Or.inl kr) fun ac A => ?_
    have A := A.re 57 (.int .u64 (IntKind.u64.wrap (((restM (D.gN raw 6) 4096 : Nat) : Int)))) (.int .u64 (((restM (D.gN raw 6) 4096 : Nat) : Int))) kr (SX.u_in _ ko)
    refine SX.takes [1] [(5, none)] A H kr kd kr kr kr (Or.inl kr) fun ac A => ?_
    have A := A.re 58 (.int .u64 (IntKind.u64.wrap (((ofN (D.orB raw) : Nat) : Int) + ((restM (D.gN raw 6) 4096 : Nat) : Int)))) (.int .u64 (((((D.pageN raw + restM (D.gN raw 6) 4096) % 18446744073709551616) : Nat) : Int))) kr (u_addm _ _)
    refine SX.takes [1] [(14, none)] A H kr kd kr kr kr (Or.inl kr) fun ac A => ?_
    exact SX.useD hJ3 kr kr ⟨A.sub _ kr, (H.pick [0, 1, 2] _ kc kr).ro_pick [0] _ kr⟩
 refine SX.joinD (fun ac w => ∃ B2 : Nat, SX.Agrees 87 ac [(2, .pointer (some ⟨B0, 0, none⟩)), (3, .pointer (some ⟨B1, 0, none⟩)), (4, .pointer (some ⟨B2, 0, none⟩)), (11, .int .i64 (((restM (D.gN raw 0) 11 : Nat) : Int))), (15, .int .i64 ((((restM (D.gN raw 1) 5 : Nat) : Int) - 1))), (18, .int .i64 (((restM (D.gN raw 2) 3 : Nat) : Int))), (21, .int .i64 (((restM (D.gN raw 8) 3 : Nat) : Int))), (25, .int .i64 (IntKind.i64.wrap (1 * 2 ^ (min (Int.toNat ((restM (D.gN raw 8) 4 : Nat) : Int)) IntKind.i64.bits)))), (28, .int .i64 (((restM (D.gN raw 8) 16 : Nat) : Int))), (32, .int .u64 ((((IntKind.u64.wrap (D.gN raw 9)).toNat : Nat) : Int)))] ∧ SX.Own w0 w [(B0, .cells (D.Op.cs (⟨0, 0, 0, 0, 0, (⟨false, false, false, false⟩ : D.Perm), 0, 0, 0⟩ : D.Op)) 68 (0, 0)), (B1, .cells #[.int .i64 (D.gN raw 0), .int .i64 (D.gN raw 1), .int .i64 (D.gN raw 2), .int .i64 (D.gN raw 3), .int .i64 (D.gN raw 4), .int .i64 (D.gN raw 5), .int .i64 (D.gN raw 6), .int .i64 (D.gN raw 7), .int .i64 (D.gN raw 8), .int .i64 (D.gN raw 9)] 146 (0, 0)), (B2, .cells (D.Op.cs (⟨0, 0, 0, 0, 0, (⟨false, false, false, false⟩ : D.Perm), 0, 0, 0⟩ : D.Op)) 68 (0, 0))] ⟨[(D.isF s1 raw)], (SX.roOf H).fb, (SX.roOf H).no⟩) 3 (SX.msk 27 49283071) ?_ (fun hJ4 => ?_)
 · rintro ac w ⟨B2, A, H⟩
   refine SX.callGD 20 [1] A H (perm_calls ((restM (D.gN raw 8) 16 : Nat) : Int) w ko ko) kr kr kr kr (Or.inl kr) fun ac w A H => SX.takes [1] [(24, none)] A H kr kd kr kr kr (Or.inl kr) fun ac A => ?_
   exact SX.useD hJ1 kr kr ⟨SX.bb H 2, A.sub _ kr, (H.pick [0, 1, 2] _ kc kr).ro_pick [0] _ kr⟩
 refine SX.joinD (fun ac w => ∃ B2 : Nat, SX.Agrees 87 ac [(2, .pointer (some ⟨B0, 0, none⟩)), (3, .pointer (some ⟨B1, 0, none⟩)), (4, .pointer (some ⟨B2, 0, none⟩)), (11, .int .i64 (((restM (D.gN raw 0) 11 : Nat) : Int))), (15, .int .i64 ((((restM (D.gN raw 1) 5 : Nat) : Int) - 1))), (18, .int .i64 (((restM (D.gN raw 2) 3 : Nat) : Int))), (21, .int .i64 (((restM (D.gN raw 8) 3 : Nat) : Int))), (25, .int .i64 (IntKind.i64.wrap (1 * 2 ^ (min (Int.toNat ((restM (D.gN raw 8) 4 : Nat) : Int)) IntKind.i64.bits)))), (27, .int .i64 (D.gN raw 8)), (32, .int .u64 ((((IntKind.u64.wrap (D.gN raw 9)).toNat : Nat) : Int)))] ∧ SX.Own w0 w [(B0, .cells (D.Op.cs (⟨0, 0, 0, 0, 0, (⟨false, false, false, false⟩ : D.Perm), 0, 0, 0⟩ : D.Op)) 68 (0, 0)), (B1, .cells #[.int .i64 (D.gN raw 0), .int .i64 (D.gN raw 1), .int .i64 (D.gN raw 2), .int .i64 (D.gN raw 3), .int .i64 (D.gN raw 4), .int .i64 (D.gN raw 5), .int .i64 (D.gN raw 6), .int .i64 (D.gN raw 7), .int .i64 (D.gN raw 8), .int .i64 (D.gN raw 9)] 146 (0, 0)), (B2, .cells (D.Op.cs (⟨0, 0, 0, 0, 0, (⟨false, false, false, false⟩ : D.Perm), 0, 0, 0⟩ : D.Op)) 68 (0, 0))] ⟨[(D.isF s1 raw)], (SX.roOf H).fb, (SX.roOf H).no⟩) 4 (SX.msk 27 48758783) ?_ (fun hJ5 => ?_)
 · rintro ac w ⟨B2, A, H⟩
   refine SX.callGD 19 [1] A H (restM_calls (D.gN raw 8) 16 w ko ko) kr kr kr kr (Or.inl kr) fun ac w A H => ?_
   exact SX.useD hJ4 kr kr ⟨SX.bb H 2, A.sub _ kr, (H.pick [0, 1, 2] _ kc kr).ro_pick [0] _ kr⟩
 refine SX.joinD (fun ac w => ∃ B2 : Nat, SX.Agrees 87 ac [(2, .pointer (some ⟨B0, 0, none⟩)), (3, .pointer (some ⟨B1, 0, none⟩)), (4, .pointer (some ⟨B2, 0, none⟩)), (11, .int .i64 (((restM (D.gN raw 0) 11 : Nat) : Int))), (15, .int .i64 ((((restM (D.gN raw 1) 5 : Nat) : Int) - 1))), (18, .int .i64 (((restM (D.gN raw 2) 3 : Nat) : Int))), (21, .int .i64 (((restM (D.gN raw 8) 3 : Nat) : Int))), (23, .int .i64 (D.gN raw 8)), (27, .int .i64 (D.gN raw 8)), (32, .int .u64 ((((IntKind.u64.wrap (D.gN raw 9)).toNat : Nat) : Int)))] ∧ SX.Own w0 w [(B0, .cells (D.Op.cs (⟨0, 0, 0, 0, 0, (⟨false, false, false, false⟩ : D.Perm), 0, 0, 0⟩ : D.Op)) 68 (0, 0)), (B1, .cells #[.int .i64 (D.gN raw 0), .int .i64 (D.gN raw 1), .int .i64 (D.gN raw 2), .int .i64 (D.gN raw 3), .int .i64 (D.gN raw 4), .int .i64 (D.gN raw 5), .int .i64 (D.gN raw 6), .int .i64 (D.gN raw 7), .int .i64 (D.gN raw 8), .int .i64 (D.gN raw 9)] 146 (0, 0)), (B2, .cells (D.Op.cs (⟨0, 0, 0, 0, 0, (⟨false, false, false, false⟩ : D.Perm), 0, 0, 0⟩ : D.Op)) 68 (0, 0))] ⟨[(D.isF s1 raw)], (SX.roOf H).fb, (SX.roOf H).no⟩) 6 (SX.msk 27 48660479) ?_ (fun hJ6 => ?_)
 · rintro ac w ⟨B2, A, H⟩
   refine SX.callGD 15 [1] A H (restM_calls (D.gN raw 8) 4 w ko ko) kr kr kr kr (Or.inl kr) fun ac w A H => SX.takes [1] [(16, none)] A H kr kd kr kr kr (Or.inl kr) fun ac A => ?_
   exact SX.useD hJ5 kr kr ⟨SX.bb H 2, A.sub _ kr, (H.pick [0, 1, 2] _ kc kr).ro_pick [0] _ kr⟩
 refine SX.joinD (fun ac w => ∃ B2 : Nat, SX.Agrees 87 ac [(2, .pointer (some ⟨B0, 0, none⟩)), (3, .pointer (some ⟨B1, 0, none⟩)), (4, .pointer (some ⟨B2, 0, none⟩)), (11, .int .i64 (((restM (D.gN raw 0) 11 : Nat) : Int))), (15, .int .i64 ((((restM (D.gN raw 1) 5 : Nat) : Int) - 1))), (18, .int .i64 (((restM (D.gN raw 2) 3 : Nat) : Int))), (20, .int .i64 (D.gN raw 8)), (23, .int .i64 (D.gN raw 8)), (27, .int .i64 (D.gN raw 8)), (32, .int .u64 ((((IntKind.u64.wrap (D.gN raw 9)).toNat : Nat) : Int)))] ∧ SX.Own w0 w [(B0, .cells (D.Op.cs (⟨0, 0, 0, 0, 0, (⟨false, false, false, false⟩ : D.Perm), 0, 0, 0⟩ : D.Op)) 68 (0, 0)), (B1, .cells #[.int .i64 (D.gN raw 0), .int .i64 (D.gN raw 1), .int .i64 (D.gN raw 2), .int .i64 (D.gN raw 3), .int .i64 (D.gN raw 4), .int .i64 (D.gN raw 5), .int .i64 (D.gN raw 6), .int .i64 (D.gN raw 7), .int .i64 (D.gN raw 8), .int .i64 (D.gN raw 9)] 146 (0, 0)), (B2, .cells (D.Op.cs (⟨0, 0, 0, 0, 0, (⟨false, false, false, false⟩ : D.Perm), 0, 0, 0⟩ : D.Op)) 68 (0, 0))] ⟨[(D.isF s1 raw)], (SX.roOf H).fb, (SX.roOf H).no⟩) 7 (SX.msk 27 48656383) ?_ (fun hJ7 => ?_)
 · rintro ac w ⟨B2, A, H⟩
   refine SX.callGD 12 [1] A H (restM_calls (D.gN raw 8) 3 w ko ko) kr kr kr kr (Or.inl kr) fun ac w A H => ?_
   exact SX.useD hJ6 kr kr ⟨SX.bb H 2, A.sub _ kr, (H.pick [0, 1, 2] _ kc kr).ro_pick [0] _ kr⟩
 refine SX.joinD (fun ac w => ∃ B2 : Nat, SX.Agrees 87 ac [(2, .pointer (some ⟨B0, 0, none⟩)), (3, .pointer (some ⟨B1, 0, none⟩)), (4, .pointer (some ⟨B2, 0, none⟩)), (11, .int .i64 (((restM (D.gN raw 0) 11 : Nat) : Int))), (15, .int .i64 ((((restM (D.gN raw 1) 5 : Nat) : Int) - 1))), (17, .int .i64 (D.gN raw 2)), (20, .int .i64 (D.gN raw 8)), (23, .int .i64 (D.gN raw 8)), (27, .int .i64 (D.gN raw 8)), (32, .int .u64 ((((IntKind.u64.wrap (D.gN raw 9)).toNat : Nat) : Int)))] ∧ SX.Own w0 w [(B0, .cells (D.Op.cs (⟨0, 0, 0, 0, 0, (⟨false, false, false, false⟩ : D.Perm), 0, 0, 0⟩ : D.Op)) 68 (0, 0)), (B1, .cells #[.int .i64 (D.gN raw 0), .int .i64 (D.gN raw 1), .int .i64 (D.gN raw 2), .int .i64 (D.gN raw 3), .int .i64 (D.gN raw 4), .int .i64 (D.gN raw 5), .int .i64 (D.gN raw 6), .int .i64 (D.gN raw 7), .int .i64 (D.gN raw 8), .int .i64 (D.gN raw 9)] 146 (0, 0)), (B2, .cells (D.Op.cs (⟨0, 0, 0, 0, 0, (⟨false, false, false, false⟩ : D.Perm), 0, 0, 0⟩ : D.Op)) 68 (0, 0))] ⟨[(D.isF s1 raw)], (SX.roOf H).fb, (SX.roOf H).no⟩) 8 (SX.msk 27 48655871) ?_ (fun hJ8 => ?_)
 · rintro ac w ⟨B2, A, H⟩
   refine SX.callGD 9 [1] A H (restM_calls (D.gN raw 2) 3 w ko ko) kr kr kr kr (Or.inl kr) fun ac w A H => ?_
   exact SX.useD hJ7 kr kr ⟨SX.bb H 2, A.sub _ kr, (H.pick [0, 1, 2] _ kc kr).ro_pick [0] _ kr⟩
 refine SX.joinD (fun ac w => ∃ B2 : Nat, SX.Agrees 87 ac [(2, .pointer (some ⟨B0, 0, none⟩)), (3, .pointer (some ⟨B1, 0, none⟩)), (4, .pointer (some ⟨B2, 0, none⟩)), (11, .int .i64 (((restM (D.gN raw 0) 11 : Nat) : Int))), (13, .int .i64 (D.gN raw 1)), (17, .int .i64 (D.gN raw 2)), (20, .int .i64 (D.gN raw 8)), (23, .int .i64 (D.gN raw 8)), (27, .int .i64 (D.gN raw 8)), (32, .int .u64 ((((IntKind.u64.wrap (D.gN raw 9)).toNat : Nat) : Int)))] ∧ SX.Own w0 w [(B0, .cells (D.Op.cs (⟨0, 0, 0, 0, 0, (⟨false, false, false, false⟩ : D.Perm), 0, 0, 0⟩ : D.Op)) 68 (0, 0)), (B1, .cells #[.int .i64 (D.gN raw 0), .int .i64 (D.gN raw 1), .int .i64 (D.gN raw 2), .int .i64 (D.gN raw 3), .int .i64 (D.gN raw 4), .int .i64 (D.gN raw 5), .int .i64 (D.gN raw 6), .int .i64 (D.gN raw 7), .int .i64 (D.gN raw 8), .int .i64 (D.gN raw 9)] 146 (0, 0)), (B2, .cells (D.Op.cs (⟨0, 0, 0, 0, 0, (⟨false, false, false, false⟩ : D.Perm), 0, 0, 0⟩ : D.Op)) 68 (0, 0))] ⟨[(D.isF s1 raw)], (SX.roOf H).fb, (SX.roOf H).no⟩) 10 (SX.msk 27 48655775) ?_ (fun hJ9 => ?_)
 · rintro ac w ⟨B2, A, H⟩
   refine SX.callGD 5 [1] A H (restM_calls (D.gN raw 1) 5 w ko ko) kr kr kr kr (Or.inl kr) fun ac w A H => SX.takes [1] [(6, none)] A H kr kd kr kr kr (Or.inl kr) fun ac A => ?_
   have A := A.re 15 (.int .i64 (IntKind.i64.wrap (((restM (D.gN raw 1) 5 : Nat) : Int) - 1))) (.int .i64 ((((restM (D.gN raw 1) 5 : Nat) : Int) - 1))) kr (SX.i_in _ ko ko)
   exact SX.useD hJ8 kr kr ⟨SX.bb H 2, A.sub _ kr, (H.pick [0, 1, 2] _ kc kr).ro_pick [0] _ kr⟩
 refine SX.many 2 [25] kr kr (SX.allC_cons ?_ (SX.allC_cons ?_ SX.allC_nil))
 ·
  refine SX.callGD_op 2 [1] A H (restM_calls (D.gN raw 0) 11 w ko ko) kr kr (Or.inl kr) fun ac w A H => ?_
  refine SX.many 5 [25] kr kr (SX.allC_cons ?_ (SX.allC_cons ?_ SX.allC_nil))
  ·
   refine SX.callGD_op 5 [1] A H (restM_calls (D.gN raw 1) 5 w ko ko) kr kr (Or.inl kr) fun ac w A H => SX.takes [1] [(6, none)] A H kr kd kr kr kr (Or.inl kr) fun ac A => ?_
   have A := A.re 15 (.int .i64 (IntKind.i64.wrap (((restM (D.gN raw 1) 5 : Nat) : Int) - 1))) (.int .i64 ((((restM (D.gN raw 1) 5 : Nat) : Int) - 1))) kr (SX.i_in _ ko ko)
   refine SX.many 9 [25] kr kr (SX.allC_cons ?_ (SX.allC_cons ?_ SX.allC_nil))
   ·
    refine SX.callGD_op 9 [1] A H (restM_calls (D.gN raw 2) 3 w ko ko) kr kr (Or.inl kr) fun ac w A H => ?_
    refine SX.many 12 [25] kr kr (SX.allC_cons ?_ (SX.allC_cons ?_ SX.allC_nil))
    ·
     refine SX.callGD_op 12 [1] A H (restM_calls (D.gN raw 8) 3 w ko ko) kr kr (Or.inl kr) fun ac w A H => ?_
     refine SX.many 15 [25] kr kr (SX.allC_cons ?_ (SX.allC_cons ?_ SX.allC_nil))
     ·
      refine SX.callGD_op 15 [1] A H (restM_calls (D.gN raw 8) 4 w ko ko) kr kr (Or.inl kr) fun ac w A H => SX.takes [1] [(16, none)] A H kr kd kr kr kr (Or.inl kr) fun ac A => ?_
      refine SX.many 19 [25] kr kr (SX.allC_cons ?_ (SX.allC_cons ?_ SX.allC_nil))
      ·
       refine SX.callGD_op 19 [1] A H (restM_calls (D.gN raw 8) 16 w ko ko) kr kr (Or.inl kr) fun ac w A H => ?_
       refine SX.many 20 [25] kr kr (SX.allC_cons ?_ (SX.allC_cons ?_ SX.allC_nil))
       ·
        refine SX.callGD_op 20 [1] A H (perm_calls ((restM (D.gN raw 8) 16 : Nat) : Int) w ko ko) kr kr (Or.inl kr) fun ac w A H => SX.takes [1] [(24, none)] A H kr kd kr kr kr (Or.inl kr) fun ac A => SX.act 25 0 [1] A H kr kr kr (Or.inl kr) fun ac w A H => ?_
        exact SX.useD hJ1 kr kr ⟨SX.bb H 2, A.sub _ kr, (H.pick [0, 1, 2] _ kc kr).ro_pick [0] _ kr⟩
       ·
        refine SX.act_op 25 0 [1] A H kr (Or.inl kr) fun ac w A H => ?_
        exact SX.useD hJ4 kr kr ⟨SX.bb H 2, A.sub _ kr, (H.pick [0, 1, 2] _ kc kr).ro_pick [0] _ kr⟩
      ·
       refine SX.act_op 25 0 [1] A H kr (Or.inl kr) fun ac w A H => ?_
       exact SX.useD hJ5 kr kr ⟨SX.bb H 2, A.sub _ kr, (H.pick [0, 1, 2] _ kc kr).ro_pick [0] _ kr⟩
     ·
      refine SX.act_op 25 0 [1] A H kr (Or.inl kr) fun ac w A H => ?_
      exact SX.useD hJ6 kr kr ⟨SX.bb H 2, A.sub _ kr, (H.pick [0, 1, 2] _ kc kr).ro_pick [0] _ kr⟩
    ·
     refine SX.act_op 25 0 [1] A H kr (Or.inl kr) fun ac w A H => ?_
     exact SX.useD hJ7 kr kr ⟨SX.bb H 2, A.sub _ kr, (H.pick [0, 1, 2] _ kc kr).ro_pick [0] _ kr⟩
   ·
    refine SX.act_op 25 0 [1] A H kr (Or.inl kr) fun ac w A H => ?_
    exact SX.useD hJ8 kr kr ⟨SX.bb H 2, A.sub _ kr, (H.pick [0, 1, 2] _ kc kr).ro_pick [0] _ kr⟩
  ·
   refine SX.act_op 25 0 [1] A H kr (Or.inl kr) fun ac w A H => ?_
   exact SX.useD hJ9 kr kr ⟨SX.bb H 2, A.sub _ kr, (H.pick [0, 1, 2] _ kc kr).ro_pick [0] _ kr⟩
 ·
  refine SX.act_op 25 0 [1] A H kr (Or.inl kr) fun ac w A H => SX.callGD 2 [1] A H (restM_calls (D.gN raw 0) 11 w ko ko) kr kr kr kr (Or.inl kr) fun ac w A H => ?_
  exact SX.useD hJ9 kr kr ⟨SX.bb H 2, A.sub _ kr, (H.pick [0, 1, 2] _ kc kr).ro_pick [0] _ kr⟩
end Go.Proofs.YtfkmcdkncmapmaaGreatDoor
