/- Walks of functions, written by the session's own program wip/sx/sxgen.py; Lean checks them. -/
import Derived.Test.YtfkmcdkncmapmaaGreatDoorY02
import Derived.Test.YtfkmcdkncmapmaaGreatDoorY15
import Derived.Test.YtfkmcdkncmapmaaGreatDoorProg
set_option linter.unusedVariables false
set_option linter.unusedSimpArgs false
set_option maxRecDepth 100000
set_option maxHeartbeats 1000000
namespace Go.Proofs.YtfkmcdkncmapmaaGreatDoor
open Go Go.RowKit
theorem growC (n : Nat) (w0 : World) (hn : n * 16 ≤ 140737488355328) :
 SX.Rets Tryz.prog 202 #[.slice none 0 0, .int .i64 ((n : Nat) : Int)] w0 (fun v w => (n = 0 ∧ v = .slice none 0 0) ∨ ∃ b c, ∃ xs : List Value, v = .slice (some ⟨b, 0, none⟩) 0 c ∧ w.heap[b]? = some (.cells xs.toArray 200 (0, 0)) ∧ w0.heap.size ≤ b ∧ xs.length = c * 2 ∧ n ≤ c ∧ c ≤ 9223372036854775807) := by
 refine SX.enter (args := [.slice none 0 0, .int .i64 ((n : Nat) : Int)]) 27 Tryz.func202 rfl kr fun ac A H => XS (XR (Xb [0] A H fun ac w A H => XD (XT (XS (XS (XR (Xb [0, 0] A H fun ac w A H => ?_)))))))
 have A := A.re 6 (.bool (decide (((n : Nat) : Int) < 0))) (.bool false) kr (congrArg Value.bool (decide_eq_false ko))
 refine XD (XT (Xf A (XK (XT (XS (XS (XR (Xb [0, 0, 0, 0, 0, 0] A H fun ac w A H => ?_))))))))
 have A := A.re 13 (.int .i64 0) (.int .i64 0) kr (by rfl)
 refine Xb [0] A H fun ac w A H => ?_
 have A := A.re 14 (.int .i64 (IntKind.i64.wrap (((n : Nat) : Int) - 0))) (.int .i64 (((n : Nat) : Int))) kr (congrArg (Value.int .i64) (by rw [IntKind.wrap_i64]; omega))
 refine Xb [0] A H fun ac w A H => XD (XT (XS (XR (Xb [0, 0] A H fun ac w A H => XD (XT ?_)))))
 refine Xs (decide (((n : Nat) : Int) > 0)) (fun h1 => ?_) fun h1 => ?_
 ·
  have A := A.rb 16 h1
  have h1p : ((n : Nat) : Int) > 0 := kp h1
  refine Xt A (XR (Xb [0, 0, 0, 0, 0] A H fun ac w A H => ?_))
  obtain ⟨nb, c, zs, w1, hrun, hown, hk1, hk2, hz⟩ := SX.run_appendZeros (P := Tryz.prog) (w := w) (t := 28) (tn := 3) (ty := 28) (e := 200) (i := Tryz.t200) (z := (Tryz.t200.zero).getD undef) (kq := .i64) (kn := .i64) Tryz.underlying28 Tryz.underlying3 kr kr kr kc (base := none) (sLen := 0) (sCap := 0) (olds := []) (by rfl) n ko ko (by show (0 + n) * 16 ≤ _; omega) kc
  rw [Nat.zero_add] at hrun hk1
  have H := hown _ _ _ H
  have hz : zs.length = (c - 0) * 2 := hz
  refine SX.given A hrun kr kr fun ac A => Xb [0, 0] A H fun ac w A H => SX.given A (SX.run_subH (P := Tryz.prog) (w := w) (k' := .i64) (⟨some ⟨nb, 0, none⟩, n, c⟩ : SX.Sl) (T := 28) (E := 200) (sz := 2) Tryz.underlying28 kr 0 (by first | omega | (simp only; omega))) kr kr fun ac A => ?_
  have A := A.re 25 ((SX.Sl.sub (⟨some ⟨nb, 0, none⟩, n, c⟩ : SX.Sl) 2 0 0).v) (.slice (some ⟨nb, 0, none⟩) 0 c) kr (by rw [SX.sub_head])
  refine Xb [0] A H fun ac w A H => XD (XT (XS (XR (Xb [0, 0] A H fun ac w A H => XD (XT (XW (Xr [0] (.slice (some ⟨nb, 0, none⟩) 0 c) A H ?_)))))))
  have hm := H.has (nb, .cells ([] ++ zs).toArray 200 (0, 0)) (List.mem_of_getElem? (i := 0) kr)
  have hf := H.fresh (nb, .cells ([] ++ zs).toArray 200 (0, 0)) (List.mem_of_getElem? (i := 0) kr)
  exact .inr ⟨nb, c, zs, rfl, hm, hf, by rw [hz, Nat.sub_zero], hk1, hk2⟩
 ·
  have A := A.rb 16 h1
  have h1p : ¬ (((n : Nat) : Int) > 0) := kp h1
  refine Xf A (XK (XT (XS (XR (Xb [0, 0] A H fun ac w A H => XD (XT (XW ?_)))))))
  refine SX.ret [0] (.slice none 0 0) A H kr kr kr (.inl ⟨by omega, rfl⟩)
theorem growP (n : Nat) (w0 : World) (hn : n * 24 ≤ 140737488355328) :
 SX.Rets Tryz.prog 108 #[.slice none 0 0, .int .i64 ((n : Nat) : Int)] w0 (fun v w => (n = 0 ∧ v = .slice none 0 0) ∨ ∃ b c, ∃ xs : List Value, v = .slice (some ⟨b, 0, none⟩) 0 c ∧ w.heap[b]? = some (.cells xs.toArray 80 (0, 0)) ∧ w0.heap.size ≤ b ∧ xs.length = c * 3 ∧ n ≤ c ∧ c ≤ 9223372036854775807) := by
 refine SX.enter (args := [.slice none 0 0, .int .i64 ((n : Nat) : Int)]) 27 Tryz.func108 rfl kr fun ac A H => XS (XR (Xb [0] A H fun ac w A H => XD (XT (XS (XS (XR (Xb [0, 0] A H fun ac w A H => ?_)))))))
 have A := A.re 6 (.bool (decide (((n : Nat) : Int) < 0))) (.bool false) kr (congrArg Value.bool (decide_eq_false ko))
 refine XD (XT (Xf A (XK (XT (XS (XS (XR (Xb [0, 0, 0, 0, 0, 0] A H fun ac w A H => ?_))))))))
 have A := A.re 13 (.int .i64 0) (.int .i64 0) kr (by rfl)
 refine Xb [0] A H fun ac w A H => ?_
 have A := A.re 14 (.int .i64 (IntKind.i64.wrap (((n : Nat) : Int) - 0))) (.int .i64 (((n : Nat) : Int))) kr (congrArg (Value.int .i64) (by rw [IntKind.wrap_i64]; omega))
 refine Xb [0] A H fun ac w A H => XD (XT (XS (XR (Xb [0, 0] A H fun ac w A H => XD (XT ?_)))))
 refine Xs (decide (((n : Nat) : Int) > 0)) (fun h1 => ?_) fun h1 => ?_
 ·
  have A := A.rb 16 h1
  have h1p : ((n : Nat) : Int) > 0 := kp h1
  refine Xt A (XR (Xb [0, 0, 0, 0, 0] A H fun ac w A H => ?_))
  obtain ⟨nb, c, zs, w1, hrun, hown, hk1, hk2, hz⟩ := SX.run_appendZeros (P := Tryz.prog) (w := w) (t := 42) (tn := 3) (ty := 42) (e := 80) (i := Tryz.t80) (z := (Tryz.t80.zero).getD undef) (kq := .i64) (kn := .i64) Tryz.underlying42 Tryz.underlying3 kr kr kr kc (base := none) (sLen := 0) (sCap := 0) (olds := []) (by rfl) n ko ko (by show (0 + n) * 24 ≤ _; omega) kc
  rw [Nat.zero_add] at hrun hk1
  have H := hown _ _ _ H
  have hz : zs.length = (c - 0) * 3 := hz
  refine SX.given A hrun kr kr fun ac A => Xb [0, 0] A H fun ac w A H => SX.given A (SX.run_subH (P := Tryz.prog) (w := w) (k' := .i64) (⟨some ⟨nb, 0, none⟩, n, c⟩ : SX.Sl) (T := 42) (E := 80) (sz := 3) Tryz.underlying42 kr 0 (by first | omega | (simp only; omega))) kr kr fun ac A => ?_
  have A := A.re 25 ((SX.Sl.sub (⟨some ⟨nb, 0, none⟩, n, c⟩ : SX.Sl) 3 0 0).v) (.slice (some ⟨nb, 0, none⟩) 0 c) kr (by rw [SX.sub_head])
  refine Xb [0] A H fun ac w A H => XD (XT (XS (XR (Xb [0, 0] A H fun ac w A H => XD (XT (XW (Xr [0] (.slice (some ⟨nb, 0, none⟩) 0 c) A H ?_)))))))
  have hm := H.has (nb, .cells ([] ++ zs).toArray 80 (0, 0)) (List.mem_of_getElem? (i := 0) kr)
  have hf := H.fresh (nb, .cells ([] ++ zs).toArray 80 (0, 0)) (List.mem_of_getElem? (i := 0) kr)
  exact .inr ⟨nb, c, zs, rfl, hm, hf, by rw [hz, Nat.sub_zero], hk1, hk2⟩
 ·
  have A := A.rb 16 h1
  have h1p : ¬ (((n : Nat) : Int) > 0) := kp h1
  refine Xf A (XK (XT (XS (XR (Xb [0, 0] A H fun ac w A H => XD (XT (XW ?_)))))))
  refine SX.ret [0] (.slice none 0 0) A H kr kr kr (.inl ⟨by omega, rfl⟩)
theorem concatC {w0 : World} {bs : SX.Boxes} {ro : SX.Rd} (i1 i2 : Nat) (s1 s2 : SX.Sl) (ys1 ys2 : List Value) (bv : Nat) (w : World) (H : SX.Own w0 w ((bv, .cells #[.slice s1.a s1.n s1.c, .slice s2.a s2.n s2.c] 28 (0, 0)) :: bs) ro) (hs1 : (ro.sl[i1]?).map SX.Fact.P = some (SX.slF s1 2 ys1).P) (hs2 : (ro.sl[i2]?).map SX.Fact.P = some (SX.slF s2 2 ys2).P) (ho1 : ∀ u ∈ ys1, u.oneCell' = true) (ho2 : ∀ u ∈ ys2, u.oneCell' = true) (hn : (s1.n + s2.n) * 16 ≤ 140737488355328) :
 Calls Tryz.prog 165 #[.slice (some ⟨bv, 0, none⟩) 2 2] w (fun e w' => ∃ u, e = .returned u ∧ ((u = .slice none 0 0 ∧ s1.n + s2.n = 0 ∧ SX.Own w0 w' ((bv, .cells #[.slice s1.a s1.n s1.c, .slice s2.a s2.n s2.c] 28 (0, 0)) :: bs) ro) ∨ ∃ b c, ∃ xs : List Value, u = .slice (some ⟨b, 0, none⟩) (s1.n + s2.n) c ∧ s1.n + s2.n ≤ c ∧ xs.length = c * 2 ∧ xs.take ((s1.n + s2.n) * 2) = ys1 ++ ys2 ∧ SX.Own w0 w' ((b, .cells xs.toArray 200 (0, 0)) :: (bv, .cells #[.slice s1.a s1.n s1.c, .slice s2.a s2.n s2.c] 28 (0, 0)) :: bs) ro)) := by
 have hl1 := SX.SlAt.len (H.fact' i1 (SX.slF s1 2 ys1) hs1)
 have hl2 := SX.SlAt.len (H.fact' i2 (SX.slF s2 2 ys2) hs2)
 refine SX.enterA (args := [.slice (some ⟨bv, 0, none⟩) 2 2]) 36 Tryz.func165 rfl kr fun ac A => XS (XR (Xb [0] A H fun ac w A H => XD (XT (XS (XR (Xb [0] A H fun ac w A H => XD (XT (XS (XS (XR (Xb [0, 0] A H fun ac w A H => ?_)))))))))))
 have A := A.re 10 (.int .i64 2) (.int .i64 2) kr (rfl)
 refine Xb [0] A H fun ac w A H => XD (XT (XB (wp_loop_rounds 3 (XO (XS (XR (Xb [0] A H fun ac w A H => XD (XT (XS (Xt A (XK (XT (XS (XB (XS (XR (Xb [0, 0, 0] A H fun ac w A H => XD (XT (XS (XR (Xb [0, 0, 0] A H fun ac w A H => ?_)))))))))))))))))))))
 have A := A.re 17 (.int .i64 (((s1.n : Nat) : Int))) (.int .i64 (((s1.n : Nat) : Int))) kr (rfl)
 refine Xb [0] A H fun ac w A H => ?_
 have A := A.re 18 (.int .i64 (IntKind.i64.wrap (0 + ((s1.n : Nat) : Int)))) (.int .i64 (((s1.n : Nat) : Int))) kr (congrArg (Value.int .i64) (by rw [IntKind.wrap_i64]; omega))
 refine Xb [0] A H fun ac w A H => XD (XT (XS (XR (Xb [0, 0] A H fun ac w A H => ?_))))
 have A := A.re 20 (.bool (decide (((s1.n : Nat) : Int) < 0))) (.bool false) kr (congrArg Value.bool (decide_eq_false ko))
 refine XD (XT (Xf A (XK (XN (XT (XR (Xb [0, 0] A H fun ac w A H => XD (XT (XO (XS (XR (Xb [0] A H fun ac w A H => XD (XT (XS (Xt A (XK (XT (XS (XB (XS (XR (Xb [0, 0, 0] A H fun ac w A H => XD (XT (XS (XR (Xb [0, 0, 0] A H fun ac w A H => ?_))))))))))))))))))))))))))
 have A := A.re 17 (.int .i64 (((s2.n : Nat) : Int))) (.int .i64 (((s2.n : Nat) : Int))) kr (rfl)
 refine Xb [0] A H fun ac w A H => ?_
 have A := A.re 18 (.int .i64 (IntKind.i64.wrap (((s1.n : Nat) : Int) + ((s2.n : Nat) : Int)))) (.int .i64 ((((s1.n + s2.n) : Nat) : Int))) kr (congrArg (Value.int .i64) (by rw [IntKind.wrap_i64]; omega))
 refine Xb [0] A H fun ac w A H => XD (XT (XS (XR (Xb [0, 0] A H fun ac w A H => ?_))))
 have A := A.re 20 (.bool (decide ((((s1.n + s2.n) : Nat) : Int) < 0))) (.bool false) kr (congrArg Value.bool (decide_eq_false ko))
 refine XD (XT (Xf A (XK (XN (XT (XR (Xb [0, 0] A H fun ac w A H => XD (XT (XO (XS (XR (Xb [0] A H fun ac w A H => XD (XT (XS (Xf A (XI (XX (XX (XE (XT (XS (XR (Xb [0] A H fun ac w A H => SX.callW A (growC (s1.n + s2.n) w hn) kr kr ?_)))))))))))))))))))))))
 rintro u ac w2 ⟨hB, hF⟩ A
 rcases hF with ⟨hn0, rfl⟩ | ⟨b, c, xs, rfl, hblk, hlo, hcl, hnc, hcm⟩
 ·
  have H := H.later hB
  refine Xb [0] A H fun ac w A H => XD (XT (XS (XS (XR (Xb [0, 0] A H fun ac w A H => ?_)))))
  have A := A.re 26 (.int .i64 2) (.int .i64 2) kr (rfl)
  refine Xb [0] A H fun ac w A H => XD (XT (XB (wp_loop_rounds 3 (XO (XS (XR (Xb [0] A H fun ac w A H => XD (XT (XS (Xt A (XK (XT (XS (XB (XS (XR (Xb [0, 0, 0] A H fun ac w A H => XD (XT (XR (Xb [0, 0] A H fun ac w A H => ?_))))))))))))))))))))
  have A := A.sub [(0, .slice (some ⟨bv, 0, none⟩) 2 2), (2, (.slice none 0 0)), (3, .int .i64 ((((s1.n + s2.n) : Nat) : Int))), (6, (.slice none 0 0)), (25, .slice (some ⟨bv, 0, none⟩) 2 2), (26, .int .i64 2), (27, .int .i64 0), (31, (.slice none 0 0)), (32, .slice s1.a s1.n s1.c)] kr
  have hsr := SX.SlAt.src (P := Tryz.prog) (SX.SlAt.any (H.fact' i1 (SX.slF s1 2 ys1) hs1)) (tx := 28) Tryz.underlying28 ho1
  have hz1 : s1.n = 0 := by omega
  have hy1 : ys1 = [] := List.eq_nil_of_length_eq_zero (by simp [hl1, hz1])
  rw [hz1, hy1] at hsr
  refine SX.given A (SX.run_appendNone (P := Tryz.prog) (t := 28) (tx := 28) (ty := 28) (i := Tryz.t200) Tryz.underlying28 kr none (sLen := 0) (sCap := 0) (Nat.le_refl 0) hsr) kr kr fun ac A => Xb [0] A H fun ac w A H => XD (XN (XT (XR (Xb [0, 0] A H fun ac w A H => XD (XT (XO (XS (XR (Xb [0] A H fun ac w A H => XD (XT (XS (Xt A (XK (XT (XS (XB (XS (XR (Xb [0, 0, 0] A H fun ac w A H => XD (XT (XR (Xb [0, 0] A H fun ac w A H => ?_))))))))))))))))))))))
  have A := A.sub [(0, .slice (some ⟨bv, 0, none⟩) 2 2), (2, (.slice none 0 0)), (3, .int .i64 ((((s1.n + s2.n) : Nat) : Int))), (6, (.slice none 0 0)), (25, .slice (some ⟨bv, 0, none⟩) 2 2), (26, .int .i64 2), (27, .int .i64 1), (31, (.slice none 0 0)), (32, .slice s2.a s2.n s2.c)] kr
  have hsr := SX.SlAt.src (P := Tryz.prog) (SX.SlAt.any (H.fact' i2 (SX.slF s2 2 ys2) hs2)) (tx := 28) Tryz.underlying28 ho2
  have hz2 : s2.n = 0 := by omega
  have hy2 : ys2 = [] := List.eq_nil_of_length_eq_zero (by simp [hl2, hz2])
  rw [hz2, hy2] at hsr
  refine SX.given A (SX.run_appendNone (P := Tryz.prog) (t := 28) (tx := 28) (ty := 28) (i := Tryz.t200) Tryz.underlying28 kr none (sLen := 0) (sCap := 0) (Nat.le_refl 0) hsr) kr kr fun ac A => Xb [0] A H fun ac w A H => XD (XN (XT (XR (Xb [0, 0] A H fun ac w A H => XD (XT (XO (XS (XR (Xb [0] A H fun ac w A H => XD (XT (XS (Xf A (XI (XX (XX (XE (XT (XS (XR (Xb [0, 0] A H fun ac w A H => XD (XT (XW ?_))))))))))))))))))))))
  refine SX.retW [0] (.slice none 0 0) A H kr kr kr ⟨_, rfl, .inl ⟨rfl, hn0, H.as ((bv, .cells #[.slice s1.a s1.n s1.c, .slice s2.a s2.n s2.c] 28 (0, 0)) :: bs) kr⟩⟩
 ·
  have H := H.adopt hB hblk hlo
  refine Xb [0] A H fun ac w A H => XD (XT (XS (XS (XR (Xb [0, 0] A H fun ac w A H => ?_)))))
  have A := A.re 26 (.int .i64 2) (.int .i64 2) kr (rfl)
  refine Xb [0] A H fun ac w A H => XD (XT (XB (wp_loop_rounds 3 (XO (XS (XR (Xb [0] A H fun ac w A H => XD (XT (XS (Xt A (XK (XT (XS (XB (XS (XR (Xb [0, 1, 0] A H fun ac w A H => XD (XT (XR (Xb [0, 0] A H fun ac w A H => ?_))))))))))))))))))))
  have A := A.sub [(0, .slice (some ⟨bv, 0, none⟩) 2 2), (2, (.slice none 0 0)), (3, .int .i64 ((((s1.n + s2.n) : Nat) : Int))), (6, .slice (some ⟨b, 0, none⟩) 0 c), (25, .slice (some ⟨bv, 0, none⟩) 2 2), (26, .int .i64 2), (27, .int .i64 0), (31, .slice (some ⟨b, 0, none⟩) 0 c), (32, .slice s1.a s1.n s1.c)] kr
  have hsr := SX.SlAt.src (P := Tryz.prog) (SX.SlAt.any (H.fact' i1 (SX.slF s1 2 ys1) hs1)) (tx := 28) Tryz.underlying28 ho1
  have H := H.as ((b, .cells xs.toArray 200 (0, 0)) :: (bv, .cells #[.slice s1.a s1.n s1.c, .slice s2.a s2.n s2.c] 28 (0, 0)) :: bs) kr
  have hb := H.has (b, .cells xs.toArray 200 (0, 0)) (List.mem_of_getElem? (i := 0) kr)
  obtain ⟨x2, w3, hrun, hown, hx1, hg1⟩ := SX.do_appendRoom (P := Tryz.prog) (w := w) (t := 28) (tx := 28) (ty := 28) (e := 200) (i := Tryz.t200) Tryz.underlying28 kr (b := b) (sLen := 0) (sCap := c) hsr ko hb (by show 0 * 2 + _ ≤ _; omega) (0 * 2) (s1.n) (by rfl) ko
  have H := hown _ _ _ H
  refine SX.given A hrun kr kr fun ac A => Xb [0] A H fun ac w A H => XD (XN (XT (XR (Xb [0, 0] A H fun ac w A H => XD (XT (XO (XS (XR (Xb [0] A H fun ac w A H => XD (XT (XS (Xt A (XK (XT (XS (XB (XS (XR (Xb [0, 1, 0] A H fun ac w A H => XD (XT (XR (Xb [0, 0] A H fun ac w A H => ?_))))))))))))))))))))))
  have A := A.sub [(0, .slice (some ⟨bv, 0, none⟩) 2 2), (2, (.slice none 0 0)), (3, .int .i64 ((((s1.n + s2.n) : Nat) : Int))), (6, .slice (some ⟨b, 0, none⟩) s1.n c), (25, .slice (some ⟨bv, 0, none⟩) 2 2), (26, .int .i64 2), (27, .int .i64 1), (31, .slice (some ⟨b, 0, none⟩) s1.n c), (32, .slice s2.a s2.n s2.c)] kr
  have hsr := SX.SlAt.src (P := Tryz.prog) (SX.SlAt.any (H.fact' i2 (SX.slF s2 2 ys2) hs2)) (tx := 28) Tryz.underlying28 ho2
  have H := H.as ((b, .cells x2.toArray 200 (0, 0)) :: (bv, .cells #[.slice s1.a s1.n s1.c, .slice s2.a s2.n s2.c] 28 (0, 0)) :: bs) kr
  have hb := H.has (b, .cells x2.toArray 200 (0, 0)) (List.mem_of_getElem? (i := 0) kr)
  obtain ⟨x3, w3, hrun, hown, hx2, hg2⟩ := SX.do_appendRoom (P := Tryz.prog) (w := w) (t := 28) (tx := 28) (ty := 28) (e := 200) (i := Tryz.t200) Tryz.underlying28 kr (b := b) (sLen := s1.n) (sCap := c) hsr ko hb (by show s1.n * 2 + _ ≤ _; omega) (s1.n * 2) (s1.n + s2.n) (by rfl) ko
  have H := hown _ _ _ H
  refine SX.given A hrun kr kr fun ac A => Xb [0] A H fun ac w A H => XD (XN (XT (XR (Xb [0, 0] A H fun ac w A H => XD (XT (XO (XS (XR (Xb [0] A H fun ac w A H => XD (XT (XS (Xf A (XI (XX (XX (XE (XT (XS (XR (Xb [0, 0] A H fun ac w A H => XD (XT (XW ?_))))))))))))))))))))))
  refine SX.retW [0] (.slice (some ⟨b, 0, none⟩) (s1.n + s2.n) c) A H kr kr kr ⟨_, rfl, .inr ⟨b, c, x3, rfl, hnc, by rw [hx2, hx1, hcl], ?_, H.as ((b, .cells x3.toArray 200 (0, 0)) :: (bv, .cells #[.slice s1.a s1.n s1.c, .slice s2.a s2.n s2.c] 28 (0, 0)) :: bs) kr⟩⟩
  apply List.ext_getElem?
  intro t
  by_cases ht : t < (s1.n + s2.n) * 2
  · rw [List.getElem?_take_of_lt ht, hg2, hg1]
    by_cases h1 : t < s1.n * 2
    · rw [if_pos h1, if_neg ko, if_pos ko, List.getElem?_append_left ko] <;> (congr 1 <;> omega)
    · rw [if_neg h1, if_pos ko, List.getElem?_append_right ko] <;> (congr 1 <;> omega)
  · rw [List.getElem?_eq_none (by rw [List.length_take]; omega), List.getElem?_eq_none (by rw [List.length_append]; omega)]
theorem concatP {w0 : World} {bs : SX.Boxes} {ro : SX.Rd} (i1 i2 : Nat) (s1 s2 : SX.Sl) (ys1 ys2 : List Value) (bv : Nat) (w : World) (H : SX.Own w0 w ((bv, .cells #[.slice s1.a s1.n s1.c, .slice s2.a s2.n s2.c] 42 (0, 0)) :: bs) ro) (hs1 : (ro.sl[i1]?).map SX.Fact.P = some (SX.slF s1 3 ys1).P) (hs2 : (ro.sl[i2]?).map SX.Fact.P = some (SX.slF s2 3 ys2).P) (ho1 : ∀ u ∈ ys1, u.oneCell' = true) (ho2 : ∀ u ∈ ys2, u.oneCell' = true) (hn : (s1.n + s2.n) * 24 ≤ 140737488355328) :
 Calls Tryz.prog 37 #[.slice (some ⟨bv, 0, none⟩) 2 2] w (fun e w' => ∃ u, e = .returned u ∧ ((u = .slice none 0 0 ∧ s1.n + s2.n = 0 ∧ SX.Own w0 w' ((bv, .cells #[.slice s1.a s1.n s1.c, .slice s2.a s2.n s2.c] 42 (0, 0)) :: bs) ro) ∨ ∃ b c, ∃ xs : List Value, u = .slice (some ⟨b, 0, none⟩) (s1.n + s2.n) c ∧ s1.n + s2.n ≤ c ∧ xs.length = c * 3 ∧ xs.take ((s1.n + s2.n) * 3) = ys1 ++ ys2 ∧ SX.Own w0 w' ((b, .cells xs.toArray 80 (0, 0)) :: (bv, .cells #[.slice s1.a s1.n s1.c, .slice s2.a s2.n s2.c] 42 (0, 0)) :: bs) ro)) := by
 have hl1 := SX.SlAt.len (H.fact' i1 (SX.slF s1 3 ys1) hs1)
 have hl2 := SX.SlAt.len (H.fact' i2 (SX.slF s2 3 ys2) hs2)
 refine SX.enterA (args := [.slice (some ⟨bv, 0, none⟩) 2 2]) 36 Tryz.func37 rfl kr fun ac A => XS (XR (Xb [0] A H fun ac w A H => XD (XT (XS (XR (Xb [0] A H fun ac w A H => XD (XT (XS (XS (XR (Xb [0, 0] A H fun ac w A H => ?_)))))))))))
 have A := A.re 10 (.int .i64 2) (.int .i64 2) kr (rfl)
 refine Xb [0] A H fun ac w A H => XD (XT (XB (wp_loop_rounds 3 (XO (XS (XR (Xb [0] A H fun ac w A H => XD (XT (XS (Xt A (XK (XT (XS (XB (XS (XR (Xb [0, 0, 0] A H fun ac w A H => XD (XT (XS (XR (Xb [0, 0, 0] A H fun ac w A H => ?_)))))))))))))))))))))
 have A := A.re 17 (.int .i64 (((s1.n : Nat) : Int))) (.int .i64 (((s1.n : Nat) : Int))) kr (rfl)
 refine Xb [0] A H fun ac w A H => ?_
 have A := A.re 18 (.int .i64 (IntKind.i64.wrap (0 + ((s1.n : Nat) : Int)))) (.int .i64 (((s1.n : Nat) : Int))) kr (congrArg (Value.int .i64) (by rw [IntKind.wrap_i64]; omega))
 refine Xb [0] A H fun ac w A H => XD (XT (XS (XR (Xb [0, 0] A H fun ac w A H => ?_))))
 have A := A.re 20 (.bool (decide (((s1.n : Nat) : Int) < 0))) (.bool false) kr (congrArg Value.bool (decide_eq_false ko))
 refine XD (XT (Xf A (XK (XN (XT (XR (Xb [0, 0] A H fun ac w A H => XD (XT (XO (XS (XR (Xb [0] A H fun ac w A H => XD (XT (XS (Xt A (XK (XT (XS (XB (XS (XR (Xb [0, 0, 0] A H fun ac w A H => XD (XT (XS (XR (Xb [0, 0, 0] A H fun ac w A H => ?_))))))))))))))))))))))))))
 have A := A.re 17 (.int .i64 (((s2.n : Nat) : Int))) (.int .i64 (((s2.n : Nat) : Int))) kr (rfl)
 refine Xb [0] A H fun ac w A H => ?_
 have A := A.re 18 (.int .i64 (IntKind.i64.wrap (((s1.n : Nat) : Int) + ((s2.n : Nat) : Int)))) (.int .i64 ((((s1.n + s2.n) : Nat) : Int))) kr (congrArg (Value.int .i64) (by rw [IntKind.wrap_i64]; omega))
 refine Xb [0] A H fun ac w A H => XD (XT (XS (XR (Xb [0, 0] A H fun ac w A H => ?_))))
 have A := A.re 20 (.bool (decide ((((s1.n + s2.n) : Nat) : Int) < 0))) (.bool false) kr (congrArg Value.bool (decide_eq_false ko))
 refine XD (XT (Xf A (XK (XN (XT (XR (Xb [0, 0] A H fun ac w A H => XD (XT (XO (XS (XR (Xb [0] A H fun ac w A H => XD (XT (XS (Xf A (XI (XX (XX (XE (XT (XS (XR (Xb [0] A H fun ac w A H => SX.callW A (growP (s1.n + s2.n) w hn) kr kr ?_)))))))))))))))))))))))
 rintro u ac w2 ⟨hB, hF⟩ A
 rcases hF with ⟨hn0, rfl⟩ | ⟨b, c, xs, rfl, hblk, hlo, hcl, hnc, hcm⟩
 ·
  have H := H.later hB
  refine Xb [0] A H fun ac w A H => XD (XT (XS (XS (XR (Xb [0, 0] A H fun ac w A H => ?_)))))
  have A := A.re 26 (.int .i64 2) (.int .i64 2) kr (rfl)
  refine Xb [0] A H fun ac w A H => XD (XT (XB (wp_loop_rounds 3 (XO (XS (XR (Xb [0] A H fun ac w A H => XD (XT (XS (Xt A (XK (XT (XS (XB (XS (XR (Xb [0, 0, 0] A H fun ac w A H => XD (XT (XR (Xb [0, 0] A H fun ac w A H => ?_))))))))))))))))))))
  have A := A.sub [(0, .slice (some ⟨bv, 0, none⟩) 2 2), (2, (.slice none 0 0)), (3, .int .i64 ((((s1.n + s2.n) : Nat) : Int))), (6, (.slice none 0 0)), (25, .slice (some ⟨bv, 0, none⟩) 2 2), (26, .int .i64 2), (27, .int .i64 0), (31, (.slice none 0 0)), (32, .slice s1.a s1.n s1.c)] kr
  have hsr := SX.SlAt.src (P := Tryz.prog) (SX.SlAt.any (H.fact' i1 (SX.slF s1 3 ys1) hs1)) (tx := 42) Tryz.underlying42 ho1
  have hz1 : s1.n = 0 := by omega
  have hy1 : ys1 = [] := List.eq_nil_of_length_eq_zero (by simp [hl1, hz1])
  rw [hz1, hy1] at hsr
  refine SX.given A (SX.run_appendNone (P := Tryz.prog) (t := 42) (tx := 42) (ty := 42) (i := Tryz.t80) Tryz.underlying42 kr none (sLen := 0) (sCap := 0) (Nat.le_refl 0) hsr) kr kr fun ac A => Xb [0] A H fun ac w A H => XD (XN (XT (XR (Xb [0, 0] A H fun ac w A H => XD (XT (XO (XS (XR (Xb [0] A H fun ac w A H => XD (XT (XS (Xt A (XK (XT (XS (XB (XS (XR (Xb [0, 0, 0] A H fun ac w A H => XD (XT (XR (Xb [0, 0] A H fun ac w A H => ?_))))))))))))))))))))))
  have A := A.sub [(0, .slice (some ⟨bv, 0, none⟩) 2 2), (2, (.slice none 0 0)), (3, .int .i64 ((((s1.n + s2.n) : Nat) : Int))), (6, (.slice none 0 0)), (25, .slice (some ⟨bv, 0, none⟩) 2 2), (26, .int .i64 2), (27, .int .i64 1), (31, (.slice none 0 0)), (32, .slice s2.a s2.n s2.c)] kr
  have hsr := SX.SlAt.src (P := Tryz.prog) (SX.SlAt.any (H.fact' i2 (SX.slF s2 3 ys2) hs2)) (tx := 42) Tryz.underlying42 ho2
  have hz2 : s2.n = 0 := by omega
  have hy2 : ys2 = [] := List.eq_nil_of_length_eq_zero (by simp [hl2, hz2])
  rw [hz2, hy2] at hsr
  refine SX.given A (SX.run_appendNone (P := Tryz.prog) (t := 42) (tx := 42) (ty := 42) (i := Tryz.t80) Tryz.underlying42 kr none (sLen := 0) (sCap := 0) (Nat.le_refl 0) hsr) kr kr fun ac A => Xb [0] A H fun ac w A H => XD (XN (XT (XR (Xb [0, 0] A H fun ac w A H => XD (XT (XO (XS (XR (Xb [0] A H fun ac w A H => XD (XT (XS (Xf A (XI (XX (XX (XE (XT (XS (XR (Xb [0, 0] A H fun ac w A H => XD (XT (XW ?_))))))))))))))))))))))
  refine SX.retW [0] (.slice none 0 0) A H kr kr kr ⟨_, rfl, .inl ⟨rfl, hn0, H.as ((bv, .cells #[.slice s1.a s1.n s1.c, .slice s2.a s2.n s2.c] 42 (0, 0)) :: bs) kr⟩⟩
 ·
  have H := H.adopt hB hblk hlo
  refine Xb [0] A H fun ac w A H => XD (XT (XS (XS (XR (Xb [0, 0] A H fun ac w A H => ?_)))))
  have A := A.re 26 (.int .i64 2) (.int .i64 2) kr (rfl)
  refine Xb [0] A H fun ac w A H => XD (XT (XB (wp_loop_rounds 3 (XO (XS (XR (Xb [0] A H fun ac w A H => XD (XT (XS (Xt A (XK (XT (XS (XB (XS (XR (Xb [0, 1, 0] A H fun ac w A H => XD (XT (XR (Xb [0, 0] A H fun ac w A H => ?_))))))))))))))))))))
  have A := A.sub [(0, .slice (some ⟨bv, 0, none⟩) 2 2), (2, (.slice none 0 0)), (3, .int .i64 ((((s1.n + s2.n) : Nat) : Int))), (6, .slice (some ⟨b, 0, none⟩) 0 c), (25, .slice (some ⟨bv, 0, none⟩) 2 2), (26, .int .i64 2), (27, .int .i64 0), (31, .slice (some ⟨b, 0, none⟩) 0 c), (32, .slice s1.a s1.n s1.c)] kr
  have hsr := SX.SlAt.src (P := Tryz.prog) (SX.SlAt.any (H.fact' i1 (SX.slF s1 3 ys1) hs1)) (tx := 42) Tryz.underlying42 ho1
  have H := H.as ((b, .cells xs.toArray 80 (0, 0)) :: (bv, .cells #[.slice s1.a s1.n s1.c, .slice s2.a s2.n s2.c] 42 (0, 0)) :: bs) kr
  have hb := H.has (b, .cells xs.toArray 80 (0, 0)) (List.mem_of_getElem? (i := 0) kr)
  obtain ⟨x2, w3, hrun, hown, hx1, hg1⟩ := SX.do_appendRoom (P := Tryz.prog) (w := w) (t := 42) (tx := 42) (ty := 42) (e := 80) (i := Tryz.t80) Tryz.underlying42 kr (b := b) (sLen := 0) (sCap := c) hsr ko hb (by show 0 * 3 + _ ≤ _; omega) (0 * 3) (s1.n) (by rfl) ko
  have H := hown _ _ _ H
  refine SX.given A hrun kr kr fun ac A => Xb [0] A H fun ac w A H => XD (XN (XT (XR (Xb [0, 0] A H fun ac w A H => XD (XT (XO (XS (XR (Xb [0] A H fun ac w A H => XD (XT (XS (Xt A (XK (XT (XS (XB (XS (XR (Xb [0, 1, 0] A H fun ac w A H => XD (XT (XR (Xb [0, 0] A H fun ac w A H => ?_))))))))))))))))))))))
  have A := A.sub [(0, .slice (some ⟨bv, 0, none⟩) 2 2), (2, (.slice none 0 0)), (3, .int .i64 ((((s1.n + s2.n) : Nat) : Int))), (6, .slice (some ⟨b, 0, none⟩) s1.n c), (25, .slice (some ⟨bv, 0, none⟩) 2 2), (26, .int .i64 2), (27, .int .i64 1), (31, .slice (some ⟨b, 0, none⟩) s1.n c), (32, .slice s2.a s2.n s2.c)] kr
  have hsr := SX.SlAt.src (P := Tryz.prog) (SX.SlAt.any (H.fact' i2 (SX.slF s2 3 ys2) hs2)) (tx := 42) Tryz.underlying42 ho2
  have H := H.as ((b, .cells x2.toArray 80 (0, 0)) :: (bv, .cells #[.slice s1.a s1.n s1.c, .slice s2.a s2.n s2.c] 42 (0, 0)) :: bs) kr
  have hb := H.has (b, .cells x2.toArray 80 (0, 0)) (List.mem_of_getElem? (i := 0) kr)
  obtain ⟨x3, w3, hrun, hown, hx2, hg2⟩ := SX.do_appendRoom (P := Tryz.prog) (w := w) (t := 42) (tx := 42) (ty := 42) (e := 80) (i := Tryz.t80) Tryz.underlying42 kr (b := b) (sLen := s1.n) (sCap := c) hsr ko hb (by show s1.n * 3 + _ ≤ _; omega) (s1.n * 3) (s1.n + s2.n) (by rfl) ko
  have H := hown _ _ _ H
  refine SX.given A hrun kr kr fun ac A => Xb [0] A H fun ac w A H => XD (XN (XT (XR (Xb [0, 0] A H fun ac w A H => XD (XT (XO (XS (XR (Xb [0] A H fun ac w A H => XD (XT (XS (Xf A (XI (XX (XX (XE (XT (XS (XR (Xb [0, 0] A H fun ac w A H => XD (XT (XW ?_))))))))))))))))))))))
  refine SX.retW [0] (.slice (some ⟨b, 0, none⟩) (s1.n + s2.n) c) A H kr kr kr ⟨_, rfl, .inr ⟨b, c, x3, rfl, hnc, by rw [hx2, hx1, hcl], ?_, H.as ((b, .cells x3.toArray 80 (0, 0)) :: (bv, .cells #[.slice s1.a s1.n s1.c, .slice s2.a s2.n s2.c] 42 (0, 0)) :: bs) kr⟩⟩
  apply List.ext_getElem?
  intro t
  by_cases ht : t < (s1.n + s2.n) * 3
  · rw [List.getElem?_take_of_lt ht, hg2, hg1]
    by_cases h1 : t < s1.n * 3
    · rw [if_pos h1, if_neg ko, if_pos ko, List.getElem?_append_left ko] <;> (congr 1 <;> omega)
    · rw [if_neg h1, if_pos ko, List.getElem?_append_right ko] <;> (congr 1 <;> omega)
  · rw [List.getElem?_eq_none (by rw [List.length_take]; omega), List.getElem?_eq_none (by rw [List.length_append]; omega)]
end Go.Proofs.YtfkmcdkncmapmaaGreatDoor
set_option linter.unusedVariables false
set_option linter.unusedSimpArgs false
set_option maxRecDepth 100000
set_option maxHeartbeats 1000000
namespace Go.Proofs.YtfkmcdkncmapmaaGreatDoor
open Go Go.RowKit
theorem Clear_calls (m : D.Mem) (k : Nat) (n : Nat)  {no : List Nat} (s1 : SX.Sl) (w0 : World) (hno : ∀ b ∈ no, b < w0.heap.size) (hs1 : (D.memF s1 m.f).P w0 no) (hk : k + n < 18446744073709551616) : SX.Rets Tryz.prog 122 #[(D.Mem.enc m s1), .int .u64 (((k : Nat) : Int)), .int .u64 (((n : Nat) : Int))] w0 (fun r_ w => ∃ y1 : SX.Sl, r_ = (D.Mem.enc (⟨m.size, D.clrF m.f (k / 8) ((k + n) / 8)⟩ : D.Mem) y1) ∧ (D.memF y1 ((⟨m.size, D.clrF m.f (k / 8) ((k + n) / 8)⟩ : D.Mem).f)).P w no) := by
 refine SX.enterN (args := [(D.Mem.enc m s1), .int .u64 (((k : Nat) : Int)), .int .u64 (((n : Nat) : Int))]) (hno := hno) 39 Tryz.func122 rfl kr fun ac A H => ?_
 have H := H.known (D.memF s1 m.f) hs1
 obtain ⟨l, hl, hms1⟩ := hs1
 have H := H.known (D.cellsF s1 l) hl
 have hcnt := SX.SlAt.count D.Cell.len kc hl
 have hle := SX.SlAt.le hl
 have hlow1 := D.low_le l (k / 8)
 have hlow2 := D.low_le l ((k + n) / 8)
 have hlow3 := D.low_mono hms1.sorted (a := k / 8) (b := (k + n) / 8) ko
 have hsh := hms1.short
 refine XS (XR (Xb [0, 0] A H fun ac w A H => XD (XT (XS (XR (Xb [0, 0, 0] A H fun ac w A H => ?_))))))
 have A := A.re 14 (.int .u64 (IntKind.u64.wrap (Int.tdiv ((k : Nat) : Int) 8))) (.int .u64 ((((k / 8) : Nat) : Int))) kr (SX.u_quo k 8 ko)
 refine Xc A H (find_calls (⟨m.size, l⟩ : D.MemL) (k / 8) s1 w H.nos_lt (H.fact' 0 (D.cellsF s1 l) kr) (hms1.sorted) (hms1.short) ko) fun ac w A H => Xb [0, 0, 0, 0, 0] A H fun ac w A H => XD (XT (XS (XR (Xb [0, 0, 0, 0] A H fun ac w A H => ?_))))
 have A := A.re 22 (.int .u64 (IntKind.u64.wrap (((k : Nat) : Int) + ((n : Nat) : Int)))) (.int .u64 ((((k + n) : Nat) : Int))) kr (SX.u_add k n ko)
 refine Xb [0] A H fun ac w A H => ?_
 have A := A.re 23 (.int .u64 (IntKind.u64.wrap (Int.tdiv (((k + n) : Nat) : Int) 8))) (.int .u64 (((((k + n) / 8) : Nat) : Int))) kr (SX.u_quo (k + n) 8 ko)
 refine Xc A H (find_calls (⟨m.size, l⟩ : D.MemL) ((k + n) / 8) s1 w H.nos_lt (H.fact' 0 (D.cellsF s1 l) kr) (hms1.sorted) (hms1.short) ko) fun ac w A H => Xb [0, 0, 0, 0, 0] A H fun ac w A H => XD (XT (XS (SX.drawn 11 [0] kr A H fun w H => SX.takes [0] [(0, none), (1, some 0), (2, none)] A H kr kd kr kr kr (Or.inl kr) fun ac A => SX.takeG 3 [0] A H kr kd (fun w HK => SX.run_subH (P := Tryz.prog) (w := w) (k' := .i64) s1 (T := 28) (E := 200) (sz := 2) Tryz.underlying28 kr (D.low l (k / 8)) ko) kr kr kr kr kr fun ac A => SX.takes [0] [(4, none), (5, some 0), (6, none)] A H kr kd kr kr kr (Or.inl kr) fun ac A => SX.takeG 7 [0] A H kr kd (fun w HK => SX.run_subL (P := Tryz.prog) (w := w) (k' := .i64) s1 (T := 28) (E := 200) (sz := 2) Tryz.underlying28 kr (D.low l ((k + n) / 8)) ko) kr kr kr kr kr fun ac A => SX.act 8 0 [0] A H kr kr kr (Or.inl kr) fun ac w A H => ?_)))
 have hsl := (H.fact' 0 (D.cellsF s1 l) kr)
 have H := H.learn (SX.slF (SX.Sl.sub s1 2 0 (D.low l (k / 8))) 2 (((l.flatMap D.Cell.cells).drop (0 * 2)).take ((D.low l (k / 8) - 0) * 2))) (SX.SlAt.sub hsl _ _ (Nat.zero_le _) ko)
 have H := H.learn (SX.slF (SX.Sl.sub s1 2 (D.low l ((k + n) / 8)) s1.n) 2 (((l.flatMap D.Cell.cells).drop (D.low l ((k + n) / 8) * 2)).take ((s1.n - D.low l ((k + n) / 8)) * 2))) (SX.SlAt.sub hsl _ _ ko (Nat.le_refl _))
 have H := H.pick [2, 0, 1] [(SX.bb H 2, .cells #[.slice (SX.Sl.sub s1 2 0 (D.low l (k / 8))).a (SX.Sl.sub s1 2 0 (D.low l (k / 8))).n (SX.Sl.sub s1 2 0 (D.low l (k / 8))).c, .slice (SX.Sl.sub s1 2 (D.low l ((k + n) / 8)) s1.n).a (SX.Sl.sub s1 2 (D.low l ((k + n) / 8)) s1.n).n (SX.Sl.sub s1 2 (D.low l ((k + n) / 8)) s1.n).c] 28 (0, 0)), (SX.bb H 0, .cells (D.Mem.cs m s1) 30 (0, 0)), (SX.bb H 1, .cells #[.int .u64 0, (.slice none 0 0)] 30 (0, 0))] kc kr
 refine SX.callWD 9 A (concatC 1 0 (SX.Sl.sub s1 2 0 (D.low l (k / 8))) (SX.Sl.sub s1 2 (D.low l ((k + n) / 8)) s1.n) (((l.flatMap D.Cell.cells).drop (0 * 2)).take ((D.low l (k / 8) - 0) * 2)) (((l.flatMap D.Cell.cells).drop (D.low l ((k + n) / 8) * 2)).take ((s1.n - D.low l ((k + n) / 8)) * 2)) _ w H kr kr (fun u hu => cells_one l u (List.mem_of_mem_drop (List.mem_of_mem_take hu))) (fun u hu => cells_one l u (List.mem_of_mem_drop (List.mem_of_mem_take hu))) (by show (D.low l (k / 8) - 0 + (s1.n - D.low l ((k + n) / 8))) * 16 ≤ _; omega)) kr kr kr kr ?_ ?_
 · rintro u w' (⟨_, _, H⟩ | ⟨b, c, xs, _, _, _, _, H⟩)
   · exact SX.keeps_as (idx := [1]) 2 H kr kr kr
   · exact SX.keeps_as (idx := [2]) 2 H kr kr kr
 rintro u ac w2 (⟨rfl, hn0, H⟩ | ⟨b, c, xs, rfl, hnc, hxl, hxt, H⟩) A
 ·
  have H := H.pick [1, 2, 0] [(SX.bb H 1, .cells #[.int .u64 (((m.size : Nat) : Int)), .slice s1.a s1.n s1.c] 30 (0, 0)), (SX.bb H 2, .cells #[.int .u64 0, (.slice none 0 0)] 30 (0, 0)), (SX.bb H 0, .cells #[.slice (SX.Sl.sub s1 2 0 (D.low l (k / 8))).a (SX.Sl.sub s1 2 0 (D.low l (k / 8))).n (SX.Sl.sub s1 2 0 (D.low l (k / 8))).c, .slice (SX.Sl.sub s1 2 (D.low l ((k + n) / 8)) s1.n).a (SX.Sl.sub s1 2 (D.low l ((k + n) / 8)) s1.n).n (SX.Sl.sub s1 2 (D.low l ((k + n) / 8)) s1.n).c] 28 (0, 0))] kc kr
  refine SX.takes [0] [(10, none)] A H kr kd kr kr kr (Or.inl kr) (k := 2) fun ac A => SX.act 11 0 [0] A H kr kr kr (Or.inr kr) (k := 2) fun ac w A H => ?_
  refine SX.doneD kr ?_ _
  refine XT (XS (XR (Xb [0, 1] A H fun ac w A H => XD (XT (XW ?_)))))
  have hmo : D.MemOk (l.take (D.low l (k / 8)) ++ l.drop (D.low l ((k + n) / 8))) (D.clrF m.f (k / 8) ((k + n) / 8)) := D.clr_ok hms1 ko
  refine Xr [1] (D.Mem.enc ⟨m.size, (D.clrF m.f (k / 8) ((k + n) / 8))⟩ SX.Sl.nil) A H ?_
  refine ⟨SX.Sl.nil, rfl, [], .inl ⟨rfl, rfl⟩, ?_⟩
  have hn0 : D.low l (k / 8) - 0 + (s1.n - D.low l ((k + n) / 8)) = 0 := hn0
  rw [show l.take (D.low l (k / 8)) ++ l.drop (D.low l ((k + n) / 8)) = [] from List.eq_nil_of_length_eq_zero (by rw [List.length_append, List.length_take, List.length_drop]; omega)] at hmo
  exact hmo
 ·
  have H := H.pick [2, 3, 1, 0] [(SX.bb H 2, .cells #[.int .u64 (((m.size : Nat) : Int)), .slice s1.a s1.n s1.c] 30 (0, 0)), (SX.bb H 3, .cells #[.int .u64 0, (.slice none 0 0)] 30 (0, 0)), (SX.bb H 1, .cells #[.slice (SX.Sl.sub s1 2 0 (D.low l (k / 8))).a (SX.Sl.sub s1 2 0 (D.low l (k / 8))).n (SX.Sl.sub s1 2 0 (D.low l (k / 8))).c, .slice (SX.Sl.sub s1 2 (D.low l ((k + n) / 8)) s1.n).a (SX.Sl.sub s1 2 (D.low l ((k + n) / 8)) s1.n).n (SX.Sl.sub s1 2 (D.low l ((k + n) / 8)) s1.n).c] 28 (0, 0)), (b, .cells xs.toArray 200 (0, 0))] kc kr
  refine SX.takes [0] [(10, none)] A H kr kd kr kr kr (Or.inl kr) (k := 2) fun ac A => SX.act 11 0 [0] A H kr kr kr (Or.inr kr) (k := 2) fun ac w A H => ?_
  refine SX.doneD kr ?_ _
  refine XT (XS (XR (Xb [0, 1] A H fun ac w A H => XD (XT (XW ?_)))))
  have hmo : D.MemOk (l.take (D.low l (k / 8)) ++ l.drop (D.low l ((k + n) / 8))) (D.clrF m.f (k / 8) ((k + n) / 8)) := D.clr_ok hms1 ko
  refine Xr [1] (D.Mem.enc ⟨m.size, (D.clrF m.f (k / 8) ((k + n) / 8))⟩ ⟨some ⟨b, 0, none⟩, D.low l (k / 8) - 0 + (s1.n - D.low l ((k + n) / 8)), c⟩) A H ?_
  have H := H.toFront 3 (p := (b, .cells xs.toArray 200 (0, 0))) kr
  have H := H.give (D.memF ⟨some ⟨b, 0, none⟩, D.low l (k / 8) - 0 + (s1.n - D.low l ((k + n) / 8)), c⟩ (D.clrF m.f (k / 8) ((k + n) / 8))) (mem_give (l := l.take (D.low l (k / 8)) ++ l.drop (D.low l ((k + n) / 8))) ((show xs.take ((D.low l (k / 8) - 0 + (s1.n - D.low l ((k + n) / 8))) * 2) = _ from hxt).trans (by
   rw [Nat.zero_mul, List.drop_zero, Nat.sub_zero, D.flat_take _ 2 D.Cell.len, D.flat_drop _ 2 D.Cell.len, List.flatMap_append]
   congr 1
   exact List.take_of_length_le (by rw [SX.flat_len _ 2 D.Cell.len, List.length_drop]; omega))) (by rw [List.length_append, List.length_take, List.length_drop]; omega) hnc hmo)
  exact ⟨_, rfl, H.out 0 (D.memF ⟨some ⟨b, 0, none⟩, D.low l (k / 8) - 0 + (s1.n - D.low l ((k + n) / 8)), c⟩ (D.clrF m.f (k / 8) ((k + n) / 8))) kr⟩
theorem tclear_calls (m : D.Mem) (fr : Nat)  {no : List Nat} (s1 : SX.Sl) (w0 : World) (hno : ∀ b ∈ no, b < w0.heap.size) (hs1 : (D.memF s1 m.f).P w0 no) (hk : fr < 4503599627370495) : SX.Rets Tryz.prog 66 #[(D.Mem.enc m s1), .int .u64 (((fr : Nat) : Int))] w0 (fun r_ w => ∃ y1 : SX.Sl, r_ = (D.Mem.enc (⟨m.size, D.clrF m.f (fr * 4096 / 8) ((fr * 4096 + 4096) / 8)⟩ : D.Mem) y1) ∧ (D.memF y1 ((⟨m.size, D.clrF m.f (fr * 4096 / 8) ((fr * 4096 + 4096) / 8)⟩ : D.Mem).f)).P w no) := by
 refine SX.enterN (args := [(D.Mem.enc m s1), .int .u64 (((fr : Nat) : Int))]) (hno := hno) 9 Tryz.func66 rfl kr fun ac A H => ?_
 have H := H.known (D.memF s1 m.f) hs1
 refine XS (XR (Xb [0, 0] A H fun ac w A H => XD (XT (XS (XR (Xb [0, 0, 0] A H fun ac w A H => ?_))))))
 have A := A.re 7 (.int .u64 (IntKind.u64.wrap (((fr : Nat) : Int) * 4096))) (.int .u64 ((((fr * 4096) : Nat) : Int))) kr (SX.u_mul fr 4096 ko)
 refine SX.call A H (Clear_calls m (fr * 4096) 4096 s1 w H.nos_lt (H.fact' 0 (D.memF s1 m.f) kr) ko) kr kr ?_
 rintro _ ac w ⟨z2, rfl, hz2⟩ A H
 have H := H.learn (D.memF z2 ((⟨m.size, D.clrF m.f ((fr * 4096) / 8) (((fr * 4096) + 4096) / 8)⟩ : D.Mem).f)) hz2
 refine Xb [1] A H fun ac w A H => XD (XT (XW (Xr [1] ((D.Mem.enc (⟨m.size, D.clrF m.f ((fr * 4096) / 8) (((fr * 4096) + 4096) / 8)⟩ : D.Mem) z2)) A H ?_)))
 refine ⟨z2, ?_, (H.out 0 (D.memF z2 ((⟨m.size, D.clrF m.f (fr * 4096 / 8) ((fr * 4096 + 4096) / 8)⟩ : D.Mem).f)) kr)⟩
 rfl
end Go.Proofs.YtfkmcdkncmapmaaGreatDoor
