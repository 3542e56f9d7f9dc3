/- Walks of functions, written by the session's own program wip/sx/sxgen.py; Lean checks them. -/
import Derived.Test.YtfkmcdkncmapmaaGreatDoorY02
import Derived.Test.YtfkmcdkncmapmaaGreatDoorY25
import Derived.Test.YtfkmcdkncmapmaaGreatDoorProg
import Derived.Test.YtfkmcdkncmapmaaGreatDoorY18
set_option linter.unusedVariables false
set_option linter.unusedSimpArgs false
set_option maxRecDepth 100000
set_option maxHeartbeats 1000000
namespace Go.Proofs.YtfkmcdkncmapmaaGreatDoor
open Go Go.RowKit
theorem pNew_calls (base : Nat) (many : Nat)  (w0 : World) (hb : base ≤ 268435456) (hm : many ≤ 64) : SX.Gives Tryz.prog 22 #[.int .u64 (((base : Nat) : Int)), .int .i64 (((many : Nat) : Int))] w0 ((.tuple #[(D.Pool.enc (⟨base, ((many : Nat) : Int), Bits.getN 18446744073709551615 0 many⟩ : D.Pool)), .int .i64 0])) := by
 refine SX.enter (args := [.int .u64 (((base : Nat) : Int)), .int .i64 (((many : Nat) : Int))]) 18 Tryz.func22 rfl kr fun ac A H => XS (XR (Xb [0, 0] A H fun ac w A H => XD (XT (XS (XR (Xb [0, 0, 0, 0, 1] A H fun ac w A H => XD (XT (XS (XS (XR (Xb [1] A H fun ac w A H => Xc A H (pRight_calls (⟨base, ((many : Nat) : Int), 0⟩ : D.Pool) w (by show base ≤ _; omega) (⟨Int.natCast_nonneg _, by show ((many : Nat) : Int) ≤ 64; omega⟩) (rfl)) fun ac w A H => Xb [0] A H fun ac w A H => XD (XT (Xf A (XK (XT (XS (XR (Xb [0] A H fun ac w A H => Xc A H (Get_calls 18446744073709551615 0 many w ko ko ko) fun ac w A H => Xb [0, 1] A H fun ac w A H => XD (XT (XS (XR (Xb [1, 0, 0] A H fun ac w A H => XD (XT (XW (Xr [0, 0] ((.tuple #[(D.Pool.enc (⟨base, ((many : Nat) : Int), Bits.getN 18446744073709551615 0 many⟩ : D.Pool)), .int .i64 0])) A H ?_)))))))))))))))))))))))))
 rfl
theorem aRight_calls (x : D.Asids)  (w0 : World) (hm : 1 ≤ x.many ∧ x.many ≤ 16) (hf : x.free = 0) (ho : x.owned = 0) : SX.Gives Tryz.prog 64 #[(D.Asids.enc x)] w0 (.bool true) := by
 obtain ⟨many, free, owned⟩ := x; simp only at hm hf ho; subst hf; subst ho; obtain ⟨n, rfl⟩ := Int.eq_ofNat_of_zero_le (show 0 ≤ many by omega); skip
 ·
  refine SX.enter (args := [(D.Asids.enc (⟨((n : Nat) : Int), 0, 0⟩ : D.Asids))]) 25 Tryz.func64 rfl kr fun ac A H => XS (XR (Xb [0, 0] A H fun ac w A H => XD (XT (XS (XR (Xb [0, 0, 0, 0] A H fun ac w A H => ?_))))))
  refine Xs (decide (((n : Nat) : Int) ≥ 1)) (fun h1 => ?_) fun h1 => ?_
  ·
   have A := A.rb 6 h1
   have h1p : ((n : Nat) : Int) ≥ 1 := kp h1
   refine Xb [0, 0, 0, 0, 0] A H fun ac w A H => ?_
   refine Xs (decide (((n : Nat) : Int) ≤ 16)) (fun h2 => ?_) fun h2 => ?_
   ·
    have A := A.rb 11 h2
    have h2p : ((n : Nat) : Int) ≤ 16 := kp h2
    refine Xb [0, 0, 0, 0] A H fun ac w A H => Xc A H (awithin_calls 0 n w ko ko) fun ac w A H => Xb [0, 0] A H fun ac w A H => ?_
    refine Xs (fits 0 n) (fun h3 => ?_) fun h3 => ?_
    ·
     have A := A.rb 18 h3
     refine Xb [0, 0, 0, 0] A H fun ac w A H => Xc A H (awithin_calls 0 n w ko ko) fun ac w A H => Xb [0, 0] A H fun ac w A H => XD (XT (XW (Xr [0] (.bool (fits 0 n)) A H (congrArg Value.bool ?_))))
     first | (simp [fits, Bits.getN]; done) | (exfalso; simp_all [fits, Bits.getN] <;> omega)
    ·
     have A := A.rb 18 h3
     refine Xb [0, 0, 0, 0, 0, 0, 0] A H fun ac w A H => XD (XT (XW (Xr [0] (.bool false) A H (congrArg Value.bool ?_))))
     first | (simp [fits, Bits.getN]; done) | (exfalso; simp_all [fits, Bits.getN] <;> omega)
   ·
    have A := A.rb 11 h2
    have h2p : ¬ (((n : Nat) : Int) ≤ 16) := kp h2
    refine Xb [0, 0, 0, 0, 0, 0, 0, 0, 0, 0, 0, 0, 0, 0] A H fun ac w A H => XD (XT (XW (Xr [0] (.bool false) A H (congrArg Value.bool ?_))))
    first | (simp [fits, Bits.getN]; done) | (exfalso; simp_all [fits, Bits.getN] <;> omega)
  ·
   have A := A.rb 6 h1
   have h1p : ¬ (((n : Nat) : Int) ≥ 1) := kp h1
   refine Xb [0, 0, 0, 0, 0, 0, 0, 0, 0, 0, 0, 0, 0, 0, 0, 0, 0, 0, 0] A H fun ac w A H => XD (XT (XW (Xr [0] (.bool false) A H (congrArg Value.bool ?_))))
   first | (simp [fits, Bits.getN]; done) | (exfalso; simp_all [fits, Bits.getN] <;> omega)
theorem aNew_calls (many : Nat)  (w0 : World) (hm : 1 ≤ many ∧ many ≤ 16) : SX.Gives Tryz.prog 23 #[.int .i64 (((many : Nat) : Int))] w0 ((.tuple #[(D.Asids.enc (⟨((many : Nat) : Int), Bits.getN 18446744073709551615 0 many, 0⟩ : D.Asids)), .int .i64 0])) := by
 refine SX.enter (args := [.int .i64 (((many : Nat) : Int))]) 15 Tryz.func23 rfl kr fun ac A H => XS (XR (Xb [0, 0] A H fun ac w A H => XD (XT (XS (XR (Xb [0, 0, 0, 1] A H fun ac w A H => XD (XT (XS (XS (XR (Xb [1] A H fun ac w A H => Xc A H (aRight_calls (⟨((many : Nat) : Int), 0, 0⟩ : D.Asids) w (⟨(by show (1 : Int) ≤ ((many : Nat) : Int); omega), (by show ((many : Nat) : Int) ≤ 16; omega)⟩) (rfl) (rfl)) fun ac w A H => Xb [0] A H fun ac w A H => XD (XT (Xf A (XK (XT (XS (XR (Xb [0] A H fun ac w A H => Xc A H (Get_calls 18446744073709551615 0 many w ko ko ko) fun ac w A H => Xb [0, 1] A H fun ac w A H => XD (XT (XS (XR (Xb [1, 0, 0] A H fun ac w A H => XD (XT (XW (Xr [0, 0] ((.tuple #[(D.Asids.enc (⟨((many : Nat) : Int), Bits.getN 18446744073709551615 0 many, 0⟩ : D.Asids)), .int .i64 0])) A H ?_)))))))))))))))))))))))))
 rfl
end Go.Proofs.YtfkmcdkncmapmaaGreatDoor
set_option linter.unusedVariables false
set_option linter.unusedSimpArgs false
set_option maxRecDepth 100000
set_option maxHeartbeats 1000000
namespace Go.Proofs.YtfkmcdkncmapmaaGreatDoor
open Go Go.RowKit
theorem made_flat {α : Type} (f : α → List Value) (sz : Nat) (hsz : 0 < sz) (hf : ∀ x, (f x).length = sz) (x : α) (z : Array Value) (hz : z.toList = f x) (n : Nat) : (madeCells z (n * sz)).toList = (List.replicate n x).flatMap f := by
 have hzs : z.size = sz := by rw [← Array.length_toList, hz, hf]
 apply List.ext_getElem?
 intro t
 have hlen : ((List.replicate n x).flatMap f).length = n * sz := by rw [SX.flat_len f sz hf, List.length_replicate]
 by_cases ht : t < n * sz
 · obtain ⟨j, d, hd, rfl⟩ : ∃ j d, d < sz ∧ t = j * sz + d := ⟨t / sz, t % sz, Nat.mod_lt _ hsz, (by rw [Nat.mul_comm]; exact (Nat.div_add_mod t sz).symm)⟩
   have hj : j < n := by
    rcases Nat.lt_or_ge j n with h | h
    · exact h
    · have := Nat.mul_le_mul_right sz h; omega
   rw [SX.flat_get f sz hf _ j d x (by rw [List.getElem?_replicate, if_pos hj]) hd]
   have hdz : d < z.size := by omega
   simp only [madeCells, Array.toList_map, List.getElem?_map, Array.toList_range, List.getElem?_range ht, Option.map_some, hzs]
   rw [Nat.add_comm, Nat.add_mul_mod_self_right, Nat.mod_eq_of_lt hd, getElem!_pos z d hdz, ← hz, Array.getElem?_toList, Array.getElem?_eq_getElem hdz]
 · rw [List.getElem?_eq_none (by rw [Array.length_toList, size_madeCells]; omega), List.getElem?_eq_none ko]
theorem tNew_calls (n : Nat)  {no : List Nat} (w0 : World) (hno : ∀ b ∈ no, b < w0.heap.size) (hm : n ≤ 16) : SX.Rets Tryz.prog 24 #[.int .i64 (((n : Nat) : Int))] w0 (fun r_ w => ∃ y1 : SX.Sl, r_ = (.tuple #[(D.Tlb.enc (⟨List.replicate n D.Set.zero⟩ : D.Tlb) y1), .int .i64 0]) ∧ (D.tlbF y1 ((⟨List.replicate n D.Set.zero⟩ : D.Tlb).sets)).P w no) := by
 refine SX.enterN (args := [.int .i64 (((n : Nat) : Int))]) (hno := hno) 14 Tryz.func24 rfl kr fun ac A H => XS (XR (Xb [0, 0] A H fun ac w A H => XD (XT (XS (XS (XR (Xb [0, 0, 0] A H fun ac w A H => ?_)))))))
 refine Xs (decide (((n : Nat) : Int) < 0)) (fun h1 => ?_) fun h1 => ?_
 ·
  have A := A.rb 6 h1
  have h1p : ((n : Nat) : Int) < 0 := kp h1
  refine Xb [0, 0, 0] A H fun ac w A H => XD (XT (Xt A (XS (XR (Xb [0, 0, 0] A H fun ac w A H => XD (XT (XW (XU ?_))))))))
  exfalso
  omega
 ·
  have A := A.rb 6 h1
  have h1p : ¬ (((n : Nat) : Int) < 0) := kp h1
  refine Xb [0, 0, 0] A H fun ac w A H => XD (XT ?_)
  refine Xs (decide (((n : Nat) : Int) > 16)) (fun h2 => ?_) fun h2 => ?_
  ·
   have A := A.rb 9 h2
   have h2p : ((n : Nat) : Int) > 16 := kp h2
   refine Xt A (XS (XR (Xb [0, 0, 0] A H fun ac w A H => XD (XT (XW (XU ?_))))))
   exfalso
   omega
  ·
   have A := A.rb 9 h2
   have h2p : ¬ (((n : Nat) : Int) > 16) := kp h2
   refine Xf A (XK (XT (XS (XR (Xb [0] A H fun ac w A H => ?_)))))
   have hrun := SX.run_semB (run_makeSlice (P := Tryz.prog) w 31 279 Tryz.t279 ((Tryz.t279.zero).getD undef) Tryz.underlying31 kr kr .i64 .i64 ((n : Nat) : Int) ((n : Nat) : Int) (Int.natCast_nonneg _) (Int.le_refl _) (by show (((n : Nat) : Int).toNat * 45 : Nat) ≤ _; omega) (by show ((232 : Nat) : Int) * _ ≤ _; omega) ko)
   simp only [Int.toNat_natCast] at hrun
   have hmc : madeCells ((Tryz.t279.zero).getD undef).cells (n * Tryz.t279.size) = ((List.replicate n D.Set.zero).flatMap D.Set.cells).toArray := by
    apply Array.ext'; exact made_flat D.Set.cells 45 kc D.Set.len D.Set.zero _ kr n
   rw [hmc] at hrun
   refine SX.given A hrun kr kr fun ac A => ?_
   obtain ⟨zz, hzz⟩ : ∃ zz : SX.Sl, zz = ⟨some ⟨w.heap.size, 0, none⟩, n, n⟩ := ⟨_, rfl⟩
   have A := A.re 12 (.slice (some ⟨w.heap.size, 0, none⟩) n n) (.slice zz.a zz.n zz.c) kr (by rw [hzz])
   have H := (H.alloc (.cells ((List.replicate n D.Set.zero).flatMap D.Set.cells).toArray 279)).rot
   have H := H.give (D.tlbF zz (List.replicate n D.Set.zero)) (by intro no hno hw; rw [hzz]; exact list_give D.Set.len (by rw [List.take_of_length_le (by rw [SX.flat_len _ 45 D.Set.len, List.length_replicate]; exact Nat.le_refl _)]) (by rw [List.length_replicate]) (Nat.le_refl _) no hno hw)
   generalize w.alloc _ = w at H ⊢
   refine Xb [0, 0, 0] A H fun ac w A H => XD (XT (XW (Xr [0, 0] ((.tuple #[(D.Tlb.enc (⟨(List.replicate n D.Set.zero)⟩ : D.Tlb) zz), .int .i64 0])) A H ?_)))
   refine ⟨zz, ?_, (H.out 0 (D.tlbF zz ((⟨List.replicate n D.Set.zero⟩ : D.Tlb).sets)) kr)⟩
   rfl
end Go.Proofs.YtfkmcdkncmapmaaGreatDoor
set_option linter.unusedVariables false
set_option linter.unusedSimpArgs false
set_option maxRecDepth 100000
set_option maxHeartbeats 2000000
namespace Go.Proofs.YtfkmcdkncmapmaaGreatDoor
open Go Go.RowKit
namespace D
def mayN (c : Conf) : Bool := within c.data 1 524288 && (within c.pool 1 64 && (within c.asids 1 16 && within c.sets 0 16))
theorem may_bd {c : Conf} (h : mayN c = true) : 1 ≤ c.data ∧ c.data ≤ 524288 ∧ 1 ≤ c.pool ∧ c.pool ≤ 64 ∧ 1 ≤ c.asids ∧ c.asids ≤ 16 ∧ 0 ≤ c.sets ∧ c.sets ≤ 16 := by
 simp [mayN, within] at h; omega
def newP (c : Conf) : Pool := ⟨c.data.toNat, ((c.pool.toNat : Nat) : Int), Bits.getN 18446744073709551615 0 c.pool.toNat⟩
def newM (c : Conf) : Mem := ⟨(c.data + c.pool).toNat * 4096, fun _ => 0⟩
def newK (c : Conf) : Kernel := ⟨c, freshM (newM c) (newP c), ⟨⟨List.replicate c.sets.toNat Set.zero⟩, ⟨0, 0, 0⟩, 0, false, false, -1⟩, (newP c).take, ⟨((c.asids.toNat : Nat) : Int), Bits.getN 18446744073709551615 0 c.asids.toNat, 0⟩, [], -1, (if (newP c).free = 0 then 0 else (newP c).next), []⟩
theorem newP_ok {c : Conf} (h : mayN c = true) : (newP c).Ok := by
 have := may_bd h
 refine ⟨by show c.data.toNat ≤ _; omega, ⟨by show (0 : Int) ≤ ((c.pool.toNat : Nat) : Int); omega, by show ((c.pool.toNat : Nat) : Int) ≤ 64; omega⟩, ?_⟩
 show Bits.getN _ _ _ < _
 exact Bits.getN_lt _ _ _ kc
end D
theorem spMay_calls (c : D.Conf)  (w0 : World) : SX.Gives Tryz.prog 20 #[(D.Conf.enc c)] w0 (.bool (D.mayN c)) := by
 refine SX.enter (args := [(D.Conf.enc c)]) 21 Tryz.func20 rfl kr fun ac A H => XS (XR (Xb [0, 0] A H fun ac w A H => XD (XT (XS (XR (Xb [0, 0] A H fun ac w A H => Xc A H (within_calls c.data 1 524288 w) fun ac w A H => Xb [0] A H fun ac w A H => ?_))))))
 refine Xs (within c.data 1 524288) (fun h1 => ?_) fun h1 => ?_
 ·
  have A := A.rb 6 h1
  refine Xb [0, 0] A H fun ac w A H => Xc A H (within_calls c.pool 1 64 w) fun ac w A H => Xb [0, 0] A H fun ac w A H => ?_
  refine Xs (within c.pool 1 64) (fun h2 => ?_) fun h2 => ?_
  ·
   have A := A.rb 11 h2
   refine Xb [0, 0] A H fun ac w A H => Xc A H (within_calls c.asids 1 16 w) fun ac w A H => Xb [0, 0] A H fun ac w A H => ?_
   refine Xs (within c.asids 1 16) (fun h3 => ?_) fun h3 => ?_
   ·
    have A := A.rb 16 h3
    refine Xb [0, 0] A H fun ac w A H => Xc A H (within_calls c.sets 0 16 w) fun ac w A H => Xb [0, 0] A H fun ac w A H => XD (XT (XW (Xr [0] (.bool (within c.sets 0 16)) A H (congrArg Value.bool ?_))))
    first | (simp [D.mayN, h1, h2, h3]; done) | (rw [Bool.eq_iff_iff]; simp [D.mayN, h1, h2, h3]; done) | (rw [Bool.eq_iff_iff]; simp [D.mayN, h1, h2, h3]; omega)
   ·
    have A := A.rb 16 h3
    refine Xb [0, 0, 0, 0, 0] A H fun ac w A H => XD (XT (XW (Xr [0] (.bool false) A H (congrArg Value.bool ?_))))
    first | (simp [D.mayN, h1, h2, h3]; done) | (rw [Bool.eq_iff_iff]; simp [D.mayN, h1, h2, h3]; done) | (rw [Bool.eq_iff_iff]; simp [D.mayN, h1, h2, h3]; omega)
  ·
   have A := A.rb 11 h2
   refine Xb [0, 0, 0, 0, 0, 0, 0, 0, 0, 0] A H fun ac w A H => XD (XT (XW (Xr [0] (.bool false) A H (congrArg Value.bool ?_))))
   first | (simp [D.mayN, h1, h2]; done) | (rw [Bool.eq_iff_iff]; simp [D.mayN, h1, h2]; done) | (rw [Bool.eq_iff_iff]; simp [D.mayN, h1, h2]; omega)
 ·
  have A := A.rb 6 h1
  refine Xb [0, 0, 0, 0, 0, 0, 0, 0, 0, 0, 0, 0, 0, 0, 0] A H fun ac w A H => XD (XT (XW (Xr [0] (.bool false) A H (congrArg Value.bool ?_))))
  first | (simp [D.mayN, h1]; done) | (rw [Bool.eq_iff_iff]; simp [D.mayN, h1]; done) | (rw [Bool.eq_iff_iff]; simp [D.mayN, h1]; omega)
theorem New_calls (c : D.Conf)  {no : List Nat} (w0 : World) (hno : ∀ b ∈ no, b < w0.heap.size) (hL : Ld w0) (hc : D.mayN c = true) : SX.Rets Tryz.prog 7 #[(D.Conf.enc c)] w0 (fun r_ w => ∃ y1 y2 y3 y4 : SX.Sl, r_ = (.tuple #[(D.Kernel.enc (D.newK c) y1 y2 y3 y4), .int .i64 0]) ∧ (D.memF y1 ((D.newK c).mem.f)).P w no ∧ (D.tlbF y2 ((D.newK c).hart.tlb.sets)).P w no ∧ (D.spsF y3 ((D.newK c).spaces)).P w no ∧ (D.fnsF y4 ((D.newK c).fences)).P w no) := by
 refine SX.enterN (args := [(D.Conf.enc c)]) (hno := hno) 63 Tryz.func7 rfl kr fun ac A H => ?_
 have hb := D.may_bd hc
 have hpo := D.newP_ok hc
 refine XS (XR (Xb [0, 0, 0] A H fun ac w A H => XD (XT (XS (XS (XR (Xb [0] A H fun ac w A H => Xc A H (spMay_calls c w) fun ac w A H => Xb [0] A H fun ac w A H => XD (XT ?_))))))))
 refine Xs (D.mayN c) (fun h1 => ?_) fun h1 => ?_
 ·
  have A := A.re 7 (.bool (!(D.mayN c))) (.bool false) kr (by rw [h1]; rfl)
  refine Xf A (XK (XT (XS (XR (Xb [0, 0, 0, 0, 2] A H fun ac w A H => XD (XT (XS (XR (Xb [0, 0, 0, 0, 0] A H fun ac w A H => ?_)))))))))
  have A := A.re 17 (.int .i64 (IntKind.i64.wrap (c.data + c.pool))) (.int .i64 ((c.data + c.pool))) kr (SX.i_in _ ko ko)
  refine Xb [0] A H fun ac w A H => ?_
  have A := A.re 18 (.int .u64 (IntKind.u64.wrap ((c.data + c.pool)))) (.int .u64 ((((c.data + c.pool).toNat : Nat) : Int))) kr (SX.u_toNat _ ko ko)
  refine Xb [0] A H fun ac w A H => ?_
  have A := A.re 19 (.int .u64 (IntKind.u64.wrap ((((c.data + c.pool).toNat : Nat) : Int) * 4096))) (.int .u64 (((((c.data + c.pool).toNat * 4096) : Nat) : Int))) kr (SX.u_mul _ 4096 ko)
  refine SX.call A H (mNew_calls ((c.data + c.pool).toNat * 4096)  w H.nos_lt  (by show even ((c.data + c.pool).toNat * 4096) 4096 = true; unfold even; rw [if_neg kc]; simp) ko) kr kr ?_
  rintro _ ac w ⟨z1, rfl, hz1⟩ A H
  have H := H.learn (D.memF z1 ((⟨((c.data + c.pool).toNat * 4096), fun _ => 0⟩ : D.Mem).f)) hz1
  refine Xb [0, 0, 0, 0, 2] A H fun ac w A H => XD (XT (XS (XR (Xb [0, 0, 0] A H fun ac w A H => ?_))))
  have A := A.re 27 (.int .u64 (IntKind.u64.wrap (c.data))) (.int .u64 (((c.data.toNat : Nat) : Int))) kr (SX.u_toNat _ ko ko)
  refine Xb [0, 0] A H fun ac w A H => ?_
  have A := A.re 29 (.int .i64 (c.pool)) (.int .i64 (((c.pool.toNat : Nat) : Int))) kr (by rw [Int.toNat_of_nonneg ko])
  refine Xc A H (pNew_calls c.data.toNat c.pool.toNat w ko ko) fun ac w A H => Xb [0, 0, 0, 0, 2] A H fun ac w A H => XD (XT (XS (XR (Xb [0, 0] A H fun ac w A H => ?_))))
  have A := A.re 36 (.int .i64 (c.asids)) (.int .i64 (((c.asids.toNat : Nat) : Int))) kr (by rw [Int.toNat_of_nonneg ko])
  refine Xc A H (aNew_calls c.asids.toNat w ko) fun ac w A H => Xb [0, 0, 0, 0, 2] A H fun ac w A H => XD (XT (XS (XR (Xb [0, 0] A H fun ac w A H => ?_))))
  have A := A.re 43 (.int .i64 (c.sets)) (.int .i64 (((c.sets.toNat : Nat) : Int))) kr (by rw [Int.toNat_of_nonneg ko])
  refine SX.call A H (tNew_calls c.sets.toNat  w H.nos_lt  ko) kr kr ?_
  rintro _ ac w ⟨z2, rfl, hz2⟩ A H
  have H := H.learn (D.tlbF z2 ((⟨List.replicate c.sets.toNat D.Set.zero⟩ : D.Tlb).sets)) hz2
  refine Xb [0, 0, 0, 0, 0, 2] A H fun ac w A H => XD (XT (XS (XR (Xb [0, 2, 0, 2] A H fun ac w A H => SX.call A H (Fresh_calls (⟨((c.data + c.pool).toNat * 4096), fun _ => 0⟩ : D.Mem) (⟨c.data.toNat, ((c.pool.toNat : Nat) : Int), Bits.getN 18446744073709551615 0 c.pool.toNat⟩ : D.Pool) z1 w H.nos_lt (H.fact' 1 (D.memF z1 ((⟨((c.data + c.pool).toNat * 4096), fun _ => 0⟩ : D.Mem).f)) kr) (hL.below H.below) (hpo)) kr kr ?_))))
  rintro _ ac w ⟨z3, rfl, hz3⟩ A H
  have H := H.learn (D.memF z3 ((D.freshM (⟨((c.data + c.pool).toNat * 4096), fun _ => 0⟩ : D.Mem) (⟨c.data.toNat, ((c.pool.toNat : Nat) : Int), Bits.getN 18446744073709551615 0 c.pool.toNat⟩ : D.Pool)).f)) hz3
  refine Xb [0, 0, 0, 0, 0, 0, 2, 0, 2, 0, 2] A H fun ac w A H => XD (XT (XS (XR (Xb [2, 1, 0] A H fun ac w A H => XD (XT (XW (Xr [1, 0] ((.tuple #[(D.Kernel.enc (⟨c, (D.freshM (⟨((c.data + c.pool).toNat * 4096), fun _ => 0⟩ : D.Mem) (⟨c.data.toNat, ((c.pool.toNat : Nat) : Int), Bits.getN 18446744073709551615 0 c.pool.toNat⟩ : D.Pool)), (⟨(⟨List.replicate c.sets.toNat D.Set.zero⟩ : D.Tlb), (⟨0, 0, 0⟩ : D.Satp), 0, false, false, (-1)⟩ : D.Hart), ((⟨c.data.toNat, ((c.pool.toNat : Nat) : Int), Bits.getN 18446744073709551615 0 c.pool.toNat⟩ : D.Pool).take), (⟨((c.asids.toNat : Nat) : Int), Bits.getN 18446744073709551615 0 c.asids.toNat, 0⟩ : D.Asids), [], (-1), if (⟨c.data.toNat, ((c.pool.toNat : Nat) : Int), Bits.getN 18446744073709551615 0 c.pool.toNat⟩ : D.Pool).free = 0 then 0 else (⟨c.data.toNat, ((c.pool.toNat : Nat) : Int), Bits.getN 18446744073709551615 0 c.pool.toNat⟩ : D.Pool).next, []⟩ : D.Kernel) z3 z2 SX.Sl.nil SX.Sl.nil), .int .i64 0])) A H ?_)))))))
  refine ⟨z3, z2, SX.Sl.nil, SX.Sl.nil, ?_, (H.out 0 (D.memF z3 ((D.newK c).mem.f)) kr), (H.out 1 (D.tlbF z2 ((D.newK c).hart.tlb.sets)) kr), D.spsNil, D.fnsNil⟩
  rfl
 ·
  have A := A.re 7 (.bool (!(D.mayN c))) (.bool true) kr (by rw [h1]; rfl)
  refine Xt A (XS (XR (Xb [0, 1, 0] A H fun ac w A H => XD (XT (XW (XU ?_))))))
  exfalso
  first | (rw [hc] at h1; cases h1) | (simp [hc] at h1)
namespace D
structure Kernel.Ok (k : Kernel) : Prop where
 hart : k.hart.Ok
 size : k.mem.size ≤ 1099511627776
structure KAns where
 k : Kernel
 a : Answer
def Answer.err_ (e : Int) : Answer := ⟨e, 0, ⟨0, Fault.zero⟩⟩
def kindB (n : Int) : Bool := decide (0 ≤ n) && decide (n ≤ 2)
def sizeB (n : Int) : Bool := decide (n = 1) || (decide (n = 2) || (decide (n = 4) || decide (n = 8)))
def Kernel.withHM (k : Kernel) (h : Hart) (m : Mem) : Kernel := ⟨k.conf, m, h, k.pool, k.asids, k.spaces, k.now, k.shared, k.fences⟩
def accessK (k : Kernel) (o : Op) : KAns :=
 if kindB o.acc = false then ⟨k, Answer.err_ 1⟩ else if sizeB o.size = false then ⟨k, Answer.err_ 1⟩ else if k.now = -1 then ⟨k, Answer.err_ 4⟩
 else ⟨k.withHM (accN k.hart k.mem o.acc o.va o.size o.val).hart (accN k.hart k.mem o.acc o.va o.size o.val).mem, ⟨0, 0, (accN k.hart k.mem o.acc o.va o.size o.val).result⟩⟩
def bringK (k : Kernel) (o : Op) : Kernel := k.withHM (bringN k.hart k.mem o.va (if kindB o.acc then o.acc else 1)).hart (bringN k.hart k.mem o.va (if kindB o.acc then o.acc else 1)).mem
theorem kb_n {n : Int} {b : Bool} (h : (!(decide (0 ≤ n) && decide (n ≤ 2))) = b) : kindB n = !b := by rw [← h, Bool.not_not]; rfl
theorem sb_n {n : Int} {b : Bool} (h : (!(decide (n = 1) || (decide (n = 2) || (decide (n = 4) || decide (n = 8))))) = b) : sizeB n = !b := by rw [← h, Bool.not_not]; rfl
theorem kindB_of {n : Int} (h : kindB n = true) : n = 0 ∨ n = 1 ∨ n = 2 := by simp [kindB] at h; omega
theorem kindIf (n : Int) : (if kindB n then n else 1) = 0 ∨ (if kindB n then n else 1) = 1 ∨ (if kindB n then n else 1) = 2 := by
 cases h : kindB n
 · exact .inr (.inl rfl)
 · exact kindB_of h
theorem sizeB_of {n : Int} (h : sizeB n = true) : n = 1 ∨ n = 2 ∨ n = 4 ∨ n = 8 := by simpa [sizeB] using h
end D
theorem access_calls (k : D.Kernel) (o : D.Op)  {no : List Nat} (s1 s2 s3 s4 : SX.Sl) (w0 : World) (hno : ∀ b ∈ no, b < w0.heap.size) (hs1 : (D.memF s1 k.mem.f).P w0 no) (hs2 : (D.tlbF s2 k.hart.tlb.sets).P w0 no) (hs3 : (D.spsF s3 k.spaces).P w0 no) (hs4 : (D.fnsF s4 k.fences).P w0 no) (hL : Ld w0) (hk : k.Ok) (hva : o.va < 18446744073709551616) : SX.Rets Tryz.prog 80 #[(D.Kernel.enc k s1 s2 s3 s4), (D.Op.enc o)] w0 (fun r_ w => ∃ y1 y2 y3 y4 : SX.Sl, r_ = (.tuple #[(D.Kernel.enc ((D.accessK k o).k) y1 y2 y3 y4), (D.Answer.enc ((D.accessK k o).a))]) ∧ (D.memF y1 (((D.accessK k o).k).mem.f)).P w no ∧ (D.tlbF y2 (((D.accessK k o).k).hart.tlb.sets)).P w no ∧ (D.spsF y3 (((D.accessK k o).k).spaces)).P w no ∧ (D.fnsF y4 (((D.accessK k o).k).fences)).P w no) := by
 refine SX.enterN (args := [(D.Kernel.enc k s1 s2 s3 s4), (D.Op.enc o)]) (hno := hno) 48 Tryz.func80 rfl kr fun ac A H => ?_
 have H := H.known (D.memF s1 k.mem.f) hs1
 have H := H.known (D.tlbF s2 k.hart.tlb.sets) hs2
 have H := H.known (D.spsF s3 k.spaces) hs3
 have H := H.known (D.fnsF s4 k.fences) hs4
 refine XS (XR (Xb [0, 0, 0, 0] A H fun ac w A H => XD (XT (XS (XB (XS (XR (Xb [0, 1] A H fun ac w A H => Xc A H (kind_calls o.acc w) fun ac w A H => Xb [0, 0] A H fun ac w A H => ?_))))))))
 refine Xs (!(decide (0 ≤ o.acc) && decide (o.acc ≤ 2))) (fun h1 => ?_) fun h1 => ?_
 ·
  have A := A.rb 12 h1
  refine Xb [0, 0, 0, 0, 0, 0] A H fun ac w A H => XD (XT (Xt A (XS (XR (Xb [0, 0, 2, 3] A H fun ac w A H => XD (XT (XW (XQ (XU (Xr [2, 3] ((.tuple #[(D.Kernel.enc k s1 s2 s3 s4), (D.Answer.enc (⟨1, 0, (⟨0, (⟨false, 0, 0⟩ : D.Fault)⟩ : D.Result)⟩ : D.Answer))])) A H ?_))))))))))
  have hf : D.accessK k o = ⟨k, D.Answer.err_ 1⟩ := by rw [D.accessK, if_pos (show D.kindB o.acc = false by first | exact h1 | exact D.kb_n h1)]
  refine ⟨s1, s2, s3, s4, ?_, (by rw [hf]; exact (H.out 3 (D.memF s1 k.mem.f) kr)), (by rw [hf]; exact (H.out 2 (D.tlbF s2 k.hart.tlb.sets) kr)), (by rw [hf]; exact (H.out 1 (D.spsF s3 k.spaces) kr)), (by rw [hf]; exact (H.out 0 (D.fnsF s4 k.fences) kr))⟩
  rw [hf] <;> rfl
 ·
  have A := A.rb 12 h1
  refine Xb [0, 1] A H fun ac w A H => Xc A H (bSize_calls o.size w) fun ac w A H => Xb [0, 0, 0] A H fun ac w A H => XD (XT ?_)
  refine Xs (decide (o.size = 1) || (decide (o.size = 2) || (decide (o.size = 4) || decide (o.size = 8)))) (fun h2 => ?_) fun h2 => ?_
  ·
   have A := A.re 7 (.bool (!(decide (o.size = 1) || (decide (o.size = 2) || (decide (o.size = 4) || decide (o.size = 8)))))) (.bool false) kr (by rw [h2]; rfl)
   refine Xf A (XS (XR (Xb [0, 0, 0, 0] A H fun ac w A H => XD (XT ?_))))
   refine Xs (k.now == (-1)) (fun h3 => ?_) fun h3 => ?_
   ·
    have A := A.rb 20 h3
    have h3p : k.now = (-1) := kp h3
    refine Xt A (XS (XR (Xb [0, 0, 2, 3] A H fun ac w A H => XD (XT (XW (XQ (XU (Xr [2, 3] ((.tuple #[(D.Kernel.enc k s1 s2 s3 s4), (D.Answer.enc (⟨4, 0, (⟨0, (⟨false, 0, 0⟩ : D.Fault)⟩ : D.Result)⟩ : D.Answer))])) A H ?_))))))))
    have hf : D.accessK k o = ⟨k, D.Answer.err_ 4⟩ := by rw [D.accessK, if_neg (by rw [(show D.kindB o.acc = true by first | exact h1 | exact D.kb_n h1)]; decide), if_neg (by rw [(show D.sizeB o.size = true by first | exact h2 | exact D.sb_n h2)]; decide), if_pos (by simpa using h3)]
    refine ⟨s1, s2, s3, s4, ?_, (by rw [hf]; exact (H.out 3 (D.memF s1 k.mem.f) kr)), (by rw [hf]; exact (H.out 2 (D.tlbF s2 k.hart.tlb.sets) kr)), (by rw [hf]; exact (H.out 1 (D.spsF s3 k.spaces) kr)), (by rw [hf]; exact (H.out 0 (D.fnsF s4 k.fences) kr))⟩
    rw [hf] <;> rfl
   ·
    have A := A.rb 20 h3
    have h3p : ¬ (k.now = (-1)) := kp h3
    refine Xf A (XK (XN (XT (XS (XR (Xb [0] A H fun ac w A H => XD (XT (XS (XR (Xb [0, 0, 0, 0, 0, 1, 0, 1, 0, 1, 0, 1] A H fun ac w A H => SX.call A H (hAccess_calls k.hart k.mem o.acc o.va o.size o.val s2 s1 w H.nos_lt (H.fact' 2 (D.tlbF s2 k.hart.tlb.sets) kr) (H.fact' 3 (D.memF s1 k.mem.f) kr) (hL.below H.below) (D.kindB_of (by first | exact h1 | exact D.kb_n h1)) (D.sizeB_of (by first | exact h2 | exact D.sb_n h2)) (hk.hart) (hva) (hk.size)) kr kr ?_))))))))))
    rintro _ ac w ⟨z5, z6, rfl, hz5, hz6⟩ A H
    have H := H.learn (D.tlbF z5 (((D.accN k.hart k.mem o.acc o.va o.size o.val).hart).tlb.sets)) hz5
    have H := H.learn (D.memF z6 (((D.accN k.hart k.mem o.acc o.va o.size o.val).mem).f)) hz6
    refine Xb [0, 0, 0, 0, 0, 0, 0, 0, 4] A H fun ac w A H => XD (XT (XS (SX.drawn 5 [0, 4] kr A H fun w H => SX.takes [0, 4] [(0, some 0), (1, some 1), (2, none)] A H kr kd kr kr kr (Or.inl kr) fun ac A => SX.act 3 2 [0, 4] A H kr kr kr (Or.inl kr) fun ac w A H => SX.act 4 3 [0, 4] A H kr kr kr (Or.inl kr) fun ac w A H => ?_)))
    refine SX.doneD kr ?_ _
    refine XT (XW (Xr [2, 3] ((.tuple #[(D.Kernel.enc (⟨k.conf, ((D.accN k.hart k.mem o.acc o.va o.size o.val).mem), ((D.accN k.hart k.mem o.acc o.va o.size o.val).hart), k.pool, k.asids, k.spaces, k.now, k.shared, k.fences⟩ : D.Kernel) z6 z5 s3 s4), (D.Answer.enc (⟨0, 0, ((D.accN k.hart k.mem o.acc o.va o.size o.val).result)⟩ : D.Answer))])) A H ?_))
    have hf : D.accessK k o = ⟨k.withHM (D.accN k.hart k.mem o.acc o.va o.size o.val).hart (D.accN k.hart k.mem o.acc o.va o.size o.val).mem, ⟨0, 0, (D.accN k.hart k.mem o.acc o.va o.size o.val).result⟩⟩ := by rw [D.accessK, if_neg (by rw [(show D.kindB o.acc = true by first | exact h1 | exact D.kb_n h1)]; decide), if_neg (by rw [(show D.sizeB o.size = true by first | exact h2 | exact D.sb_n h2)]; decide), if_neg (by simpa using h3)]
    refine ⟨z6, z5, s3, s4, ?_, (by rw [hf]; exact (H.out 0 (D.memF z6 (((D.accN k.hart k.mem o.acc o.va o.size o.val).mem).f)) kr)), (by rw [hf]; exact (H.out 1 (D.tlbF z5 (((D.accN k.hart k.mem o.acc o.va o.size o.val).hart).tlb.sets)) kr)), (by rw [hf]; exact (H.out 3 (D.spsF s3 k.spaces) kr)), (by rw [hf]; exact (H.out 2 (D.fnsF s4 k.fences) kr))⟩
    rw [hf] <;> rfl
  ·
   have A := A.re 7 (.bool (!(decide (o.size = 1) || (decide (o.size = 2) || (decide (o.size = 4) || decide (o.size = 8)))))) (.bool true) kr (by rw [h2]; rfl)
   refine Xt A (XS (XR (Xb [0, 0, 2, 3] A H fun ac w A H => XD (XT (XW (XQ (XU (Xr [2, 3] ((.tuple #[(D.Kernel.enc k s1 s2 s3 s4), (D.Answer.enc (⟨1, 0, (⟨0, (⟨false, 0, 0⟩ : D.Fault)⟩ : D.Result)⟩ : D.Answer))])) A H ?_))))))))
   have hf : D.accessK k o = ⟨k, D.Answer.err_ 1⟩ := by rw [D.accessK, if_neg (by rw [(show D.kindB o.acc = true by first | exact h1 | exact D.kb_n h1)]; decide), if_pos (show D.sizeB o.size = false by first | exact h2 | exact D.sb_n h2)]
   refine ⟨s1, s2, s3, s4, ?_, (by rw [hf]; exact (H.out 3 (D.memF s1 k.mem.f) kr)), (by rw [hf]; exact (H.out 2 (D.tlbF s2 k.hart.tlb.sets) kr)), (by rw [hf]; exact (H.out 1 (D.spsF s3 k.spaces) kr)), (by rw [hf]; exact (H.out 0 (D.fnsF s4 k.fences) kr))⟩
   rw [hf] <;> rfl
theorem bring_calls (k : D.Kernel) (o : D.Op)  {no : List Nat} (s1 s2 s3 s4 : SX.Sl) (w0 : World) (hno : ∀ b ∈ no, b < w0.heap.size) (hs1 : (D.memF s1 k.mem.f).P w0 no) (hs2 : (D.tlbF s2 k.hart.tlb.sets).P w0 no) (hs3 : (D.spsF s3 k.spaces).P w0 no) (hs4 : (D.fnsF s4 k.fences).P w0 no) (hL : Ld w0) (hk : k.Ok) (hva : o.va < 18446744073709551616) : SX.Rets Tryz.prog 82 #[(D.Kernel.enc k s1 s2 s3 s4), (D.Op.enc o)] w0 (fun r_ w => ∃ y1 y2 y3 y4 : SX.Sl, r_ = (.tuple #[(D.Kernel.enc (D.bringK k o) y1 y2 y3 y4), .int .i64 0]) ∧ (D.memF y1 ((D.bringK k o).mem.f)).P w no ∧ (D.tlbF y2 ((D.bringK k o).hart.tlb.sets)).P w no ∧ (D.spsF y3 ((D.bringK k o).spaces)).P w no ∧ (D.fnsF y4 ((D.bringK k o).fences)).P w no) := by
 refine SX.enterN (args := [(D.Kernel.enc k s1 s2 s3 s4), (D.Op.enc o)]) (hno := hno) 26 Tryz.func82 rfl kr fun ac A H => ?_
 have H := H.known (D.memF s1 k.mem.f) hs1
 have H := H.known (D.tlbF s2 k.hart.tlb.sets) hs2
 have H := H.known (D.spsF s3 k.spaces) hs3
 have H := H.known (D.fnsF s4 k.fences) hs4
 refine XS (XR (Xb [0, 0, 0, 0] A H fun ac w A H => XD (XT (XS (XS (XR (Xb [0, 1] A H fun ac w A H => Xc A H (kind_calls o.acc w) fun ac w A H => Xb [0] A H fun ac w A H => XD (XT ?_))))))))
 refine SX.cut (fun ac w => ∃ B0 B1 B2 : Nat, SX.Agrees 26 ac [(2, .pointer (some ⟨B0, 0, none⟩)), (3, .pointer (some ⟨B1, 0, none⟩)), (4, .pointer (some ⟨B2, 0, none⟩)), (5, .int .i64 0)] ∧ SX.Own w0 w [(B0, .cells (D.Kernel.cs k s1 s2 s3 s4) 45 (0, 0)), (B1, .cells (D.Op.cs (⟨o.kind, o.id, o.va, o.pa, o.level, o.perm, (if D.kindB o.acc then o.acc else 1), o.size, o.val⟩ : D.Op)) 68 (0, 0)), (B2, .cells (D.Kernel.cs (⟨(⟨0, 0, 0, 0⟩ : D.Conf), (⟨0, (fun _ => 0)⟩ : D.Mem), (⟨(⟨[]⟩ : D.Tlb), (⟨0, 0, 0⟩ : D.Satp), 0, false, false, 0⟩ : D.Hart), (⟨0, 0, 0⟩ : D.Pool), (⟨0, 0, 0⟩ : D.Asids), [], 0, 0, []⟩ : D.Kernel) SX.Sl.nil SX.Sl.nil SX.Sl.nil SX.Sl.nil) 45 (0, 0))] (SX.roOf H)) ?_ ?_
 ·
  refine Xs (decide (0 ≤ o.acc) && decide (o.acc ≤ 2)) (fun h1 => ?_) fun h1 => ?_
  ·
   have A := A.re 9 (.bool (!(decide (0 ≤ o.acc) && decide (o.acc ≤ 2)))) (.bool false) kr (by rw [h1]; rfl)
   refine Xf A (XK ?_)
   have hkb : D.kindB o.acc = true := by first | exact h1 | exact D.kb_n h1
   have H := H.re 1 (SX.bb H 1) (.cells #[.int .i64 (o.kind), .int .i64 (o.id), .int .u64 (((o.va : Nat) : Int)), .int .u64 (((o.pa : Nat) : Int)), .int .i64 (o.level), .bool o.perm.r, .bool o.perm.w, .bool o.perm.x, .bool o.perm.u, .int .i64 (o.acc), .int .i64 (o.size), .int .u64 (((o.val : Nat) : Int))] 68 (0, 0)) (.cells #[.int .i64 (o.kind), .int .i64 (o.id), .int .u64 (((o.va : Nat) : Int)), .int .u64 (((o.pa : Nat) : Int)), .int .i64 (o.level), .bool o.perm.r, .bool o.perm.w, .bool o.perm.x, .bool o.perm.u, .int .i64 ((if D.kindB o.acc then o.acc else 1)), .int .i64 (o.size), .int .u64 (((o.val : Nat) : Int))] 68 (0, 0)) kr (by rw [hkb]; rfl)
   exact ⟨SX.bb H 0, SX.bb H 1, SX.bb H 2, A.sub _ kr, H.pick [0, 1, 2] _ kc kr⟩
  ·
   have A := A.re 9 (.bool (!(decide (0 ≤ o.acc) && decide (o.acc ≤ 2)))) (.bool true) kr (by rw [h1]; rfl)
   refine Xt A (XR (Xb [0, 1] A H fun ac w A H => XD ?_))
   have hkb : D.kindB o.acc = false := by first | exact h1 | exact D.kb_n h1
   have H := H.re 1 (SX.bb H 1) (.cells #[.int .i64 (o.kind), .int .i64 (o.id), .int .u64 (((o.va : Nat) : Int)), .int .u64 (((o.pa : Nat) : Int)), .int .i64 (o.level), .bool o.perm.r, .bool o.perm.w, .bool o.perm.x, .bool o.perm.u, .int .i64 1, .int .i64 (o.size), .int .u64 (((o.val : Nat) : Int))] 68 (0, 0)) (.cells #[.int .i64 (o.kind), .int .i64 (o.id), .int .u64 (((o.va : Nat) : Int)), .int .u64 (((o.pa : Nat) : Int)), .int .i64 (o.level), .bool o.perm.r, .bool o.perm.w, .bool o.perm.x, .bool o.perm.u, .int .i64 ((if D.kindB o.acc then o.acc else 1)), .int .i64 (o.size), .int .u64 (((o.val : Nat) : Int))] 68 (0, 0)) kr (by rw [hkb]; rfl)
   exact ⟨SX.bb H 0, SX.bb H 1, SX.bb H 2, A.sub _ kr, H.pick [0, 1, 2] _ kc kr⟩
 rintro ac w ⟨B0, B1, B2, A, H⟩
 refine XT (XS (XR (Xb [0, 0, 0, 0, 0, 1, 0, 1] A H fun ac w A H => SX.call A H (Bring_calls k.hart k.mem o.va (if D.kindB o.acc then o.acc else 1) s2 s1 w H.nos_lt (H.fact' 2 (D.tlbF s2 k.hart.tlb.sets) kr) (H.fact' 3 (D.memF s1 k.mem.f) kr) (hL.below H.below) (hk.hart.ppn) (hk.hart.asid) (hk.hart.tlb) (hva) (D.kindIf o.acc) (hk.size)) kr kr ?_)))
 rintro _ ac w ⟨z5, z6, rfl, hz5, hz6⟩ A H
 have H := H.learn (D.tlbF z5 (((D.bringN k.hart k.mem o.va (if D.kindB o.acc then o.acc else 1)).hart).tlb.sets)) hz5
 have H := H.learn (D.memF z6 (((D.bringN k.hart k.mem o.va (if D.kindB o.acc then o.acc else 1)).mem).f)) hz6
 refine Xb [0, 0, 0, 0, 0, 0, 0] A H fun ac w A H => XD (XT (XS (XR (Xb [0, 2, 0] A H fun ac w A H => XD (XT (XW (Xr [2, 0] ((.tuple #[(D.Kernel.enc (⟨k.conf, ((D.bringN k.hart k.mem o.va (if D.kindB o.acc then o.acc else 1)).mem), ((D.bringN k.hart k.mem o.va (if D.kindB o.acc then o.acc else 1)).hart), k.pool, k.asids, k.spaces, k.now, k.shared, k.fences⟩ : D.Kernel) z6 z5 s3 s4), .int .i64 0])) A H ?_)))))))
 refine ⟨z6, z5, s3, s4, ?_, (H.out 0 (D.memF z6 ((D.bringK k o).mem.f)) kr), (H.out 1 (D.tlbF z5 ((D.bringK k o).hart.tlb.sets)) kr), (H.out 3 (D.spsF s3 ((D.bringK k o).spaces)) kr), (H.out 2 (D.fnsF s4 ((D.bringK k o).fences)) kr)⟩
 rfl
end Go.Proofs.YtfkmcdkncmapmaaGreatDoor
