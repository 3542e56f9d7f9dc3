/- Walks of functions, written by the session's own program wip/sx/sxgen.py; Lean checks them. -/
import Derived.Test.YtfkmcdkncmapmaaGreatDoorY02
import Derived.Test.YtfkmcdkncmapmaaGreatDoorY13
import Derived.Test.YtfkmcdkncmapmaaGreatDoorProg
set_option linter.unusedVariables false
set_option linter.unusedSimpArgs false
set_option maxRecDepth 100000
set_option maxHeartbeats 1000000
namespace Go.Proofs.YtfkmcdkncmapmaaGreatDoor
open Go Go.RowKit
theorem insert_calls {w0 : World} {bs : SX.Boxes} {ro : SX.Rd} (i n c b bv at_ v : Nat) (xs ys : List Value) (w : World) (H : SX.Own w0 w ((b, .cells xs.toArray 200 (0, 0)) :: (bv, .cells #[.int .u64 at_, .int .u64 v] 200 (0, 0)) :: bs) ro) (hi : i ≤ n) (hc : xs.length = c * 2) (hl : ys.length = n * 2) (hx : xs.take (n * 2) = ys) (h1o : ∀ u ∈ ys, u.oneCell' = true) (hnc : n ≤ c) (hn : n ≤ 137438953472) (hcm : c ≤ 9223372036854775807) :
 Calls Tryz.prog 194 #[.slice (some ⟨b, 0, none⟩) n c, .int .i64 ((i : Nat) : Int), .slice (some ⟨bv, 0, none⟩) 1 1] w (fun e w' => ∃ u, e = .returned u ∧ ∃ b' c', ∃ xs' : List Value, u = .slice (some ⟨b', 0, none⟩) (n + 1) c' ∧ n + 1 ≤ c' ∧ xs'.length = c' * 2 ∧ xs'.take ((n + 1) * 2) = ys.take (i * 2) ++ [.int .u64 at_, .int .u64 v] ++ ys.drop (i * 2) ∧ SX.Own w0 w' ((b', .cells xs'.toArray 200 (0, 0)) :: bs) ro) := by
 generalize hev : ([.int .u64 at_, .int .u64 v] : List Value) = ev at *
 have hev1 : ∀ u ∈ ev, u.oneCell' = true := by subst hev; intro u hu; simp only [List.mem_cons, List.not_mem_nil, or_false] at hu; rcases hu with rfl | rfl <;> rfl
 have hevl : ev.length = 2 := by subst hev; rfl
 have hne := H.ne12
 have H : SX.Own w0 w ((b, .cells xs.toArray 200 (0, 0)) :: (bv, .cells ev.toArray 200 (0, 0)) :: bs) ro := by subst hev; exact H
 refine SX.enterA (args := [.slice (some ⟨b, 0, none⟩) n c, .int .i64 ((i : Nat) : Int), .slice (some ⟨bv, 0, none⟩) 1 1]) 95 Tryz.func194 rfl kr fun ac A => XS (XR (Xb [0] A H fun ac w A H => XD (XT (XS (XR (Xb [0, 0] A H fun ac w A H => SX.given A (SX.run_subL (P := Tryz.prog) (w := w) (k' := .i64) (⟨some ⟨b, 0, none⟩, n, c⟩ : SX.Sl) (T := 28) (E := 200) (sz := 2) Tryz.underlying28 kr i (by first | omega | (simp only; omega))) kr kr fun ac A => XD (XT (XS (XR (Xb [0, 0, 0] A H fun ac w A H => XD (XT (XS (XS (XR (Xb [0, 0] A H fun ac w A H => XD (XT (Xf A (XK (XT (XS (XR (Xb [0, 0, 0] A H fun ac w A H => XD (XT (XS (XS (XR (Xb [0, 0, 0] A H fun ac w A H => XD (XT ?_))))))))))))))))))))))))))))
 refine Xs (((i : Nat) : Int) == ((n : Nat) : Int)) (fun h1 => ?_) fun h1 => ?_
 ·
  have A := A.rb 22 h1
  have h1p : ((i : Nat) : Int) = ((n : Nat) : Int) := kp h1
  refine Xt A (XS (XR (Xb [0, 0] A H fun ac w A H => ?_)))
  by_cases hr : n + 1 ≤ c
  ·
   have hb := H.has (b, .cells xs.toArray 200 (0, 0)) (List.mem_of_getElem? (i := 0) kr)
   have hbv := H.has (bv, .cells ev.toArray 200 (0, 0)) (List.mem_of_getElem? (i := 1) kr)
   have hsr := SX.SlAt.src (P := Tryz.prog) (SX.slAt_own (n := 1) (c := 1) (sz := 2) hbv hevl (Nat.le_refl 1) (List.take_of_length_le (by rw [hevl]; decide))) (tx := 28) Tryz.underlying28 hev1
   have A := A.sub [(0, .slice (some ⟨b, 0, none⟩) n c), (1, .int .i64 (((i : Nat) : Int))), (2, .slice (some ⟨bv, 0, none⟩) 1 1), (6, (.slice none 0 0)), (7, .int .i64 1), (8, .int .i64 (((n : Nat) : Int))), (10, .slice (some ⟨b, 0, none⟩) n c), (11, .int .i64 (((i : Nat) : Int))), (12, (SX.Sl.sub (⟨some ⟨b, 0, none⟩, n, c⟩ : SX.Sl) 2 i n).v), (13, .slice (some ⟨bv, 0, none⟩) 1 1), (14, .int .i64 1), (15, .int .i64 1), (16, .bool false), (18, .slice (some ⟨b, 0, none⟩) n c), (19, .int .i64 (((n : Nat) : Int))), (20, .int .i64 (((i : Nat) : Int))), (21, .int .i64 (((n : Nat) : Int))), (22, .bool true), (23, .slice (some ⟨b, 0, none⟩) n c), (24, .slice (some ⟨bv, 0, none⟩) 1 1)] kr
   have H := H.as ((b, .cells xs.toArray 200 (0, 0)) :: (bv, .cells ev.toArray 200 (0, 0)) :: bs) kr
   obtain ⟨x2, w1, hrun, hown, hlA, hgA⟩ := SX.do_appendRoom (P := Tryz.prog) (t := 28) (tx := 28) (ty := 28) (e := 200) (i := Tryz.t200) Tryz.underlying28 kr (b := b) (sLen := n) (sCap := c) hsr hr hb (by rw [hevl, hc]; show n * 2 + 2 ≤ _; omega) (n * 2) (n + 1) rfl rfl
   have H := hown _ _ _ H
   refine SX.given A hrun kr kr fun ac A => Xb [0] A H fun ac w A H => XD (XT (XW (XU ?_)))
   refine SX.retW [0] (.slice (some ⟨b, 0, none⟩) (n + 1) c) A H kr kr kr ⟨_, rfl, b, c, x2, rfl, by omega, by rw [hlA, hc], ?_, (H.as ((b, .cells x2.toArray 200 (0, 0)) :: (bv, .cells ev.toArray 200 (0, 0)) :: bs) kr).skip2⟩
   have h1n : i = n := by omega
   apply List.ext_getElem?
   intro t
   by_cases ht : t < (n + 1) * 2
   · rw [List.getElem?_take_of_lt ht]
     have ht1 : (ys.take (i * 2)).length = i * 2 := by rw [List.length_take, hl]; omega
     have hR : (ys.take (i * 2) ++ ev ++ ys.drop (i * 2))[t]? = if t < i * 2 then xs[t]? else if t < i * 2 + 2 then ev[t - i * 2]? else (ys.drop (i * 2))[t - (i * 2 + 2)]? := by
      by_cases g1 : t < i * 2
      · rw [if_pos g1, List.append_assoc, List.getElem?_append_left ko, List.getElem?_take_of_lt g1, ← hx, List.getElem?_take_of_lt ko]
      · rw [if_neg g1]
        by_cases g2 : t < i * 2 + 2
        · rw [if_pos g2, List.getElem?_append_left (by rw [List.length_append, ht1, hevl]; omega), List.getElem?_append_right ko, ht1]
        · rw [if_neg g2, List.getElem?_append_right (by rw [List.length_append, ht1, hevl]; omega), List.length_append, ht1, hevl]
     rw [hR]
     rw [hgA, hevl, show i = n from h1n]
     by_cases g1 : t < n * 2
     · rw [if_pos g1, if_pos g1]
     · rw [if_neg g1, if_neg g1, if_pos ko, if_pos ko]
   · rw [List.getElem?_eq_none (by rw [List.length_take]; omega), List.getElem?_eq_none (by rw [List.length_append, List.length_append, List.length_take, List.length_drop, hl, hevl]; omega)]
  ·
   have hb := H.has (b, .cells xs.toArray 200 (0, 0)) (List.mem_of_getElem? (i := 0) kr)
   have hbv := H.has (bv, .cells ev.toArray 200 (0, 0)) (List.mem_of_getElem? (i := 1) kr)
   have hsr := SX.SlAt.src (P := Tryz.prog) (SX.slAt_own (n := 1) (c := 1) (sz := 2) hbv hevl (Nat.le_refl 1) (List.take_of_length_le (by rw [hevl]; decide))) (tx := 28) Tryz.underlying28 hev1
   have A := A.sub [(0, .slice (some ⟨b, 0, none⟩) n c), (1, .int .i64 (((i : Nat) : Int))), (2, .slice (some ⟨bv, 0, none⟩) 1 1), (6, (.slice none 0 0)), (7, .int .i64 1), (8, .int .i64 (((n : Nat) : Int))), (10, .slice (some ⟨b, 0, none⟩) n c), (11, .int .i64 (((i : Nat) : Int))), (12, (SX.Sl.sub (⟨some ⟨b, 0, none⟩, n, c⟩ : SX.Sl) 2 i n).v), (13, .slice (some ⟨bv, 0, none⟩) 1 1), (14, .int .i64 1), (15, .int .i64 1), (16, .bool false), (18, .slice (some ⟨b, 0, none⟩) n c), (19, .int .i64 (((n : Nat) : Int))), (20, .int .i64 (((i : Nat) : Int))), (21, .int .i64 (((n : Nat) : Int))), (22, .bool true), (23, .slice (some ⟨b, 0, none⟩) n c), (24, .slice (some ⟨bv, 0, none⟩) 1 1)] kr
   have H := H.as ((b, .cells xs.toArray 200 (0, 0)) :: (bv, .cells ev.toArray 200 (0, 0)) :: bs) kr
   have hf1 := SX.run_first (P := Tryz.prog) (w := w.drew) (b := b) (o := 0) (n := n) (c := c) (sz := 2) (xs := xs) hb (by rw [hc]; omega)
   have hbg : (n + 1) * Tryz.t200.bytes ≤ 140737488355328 := by show (n + 1) * 16 ≤ _; omega
   obtain ⟨nb, k, zs, w1, hrun, hown, hk1, hk2, hz⟩ := SX.run_appendGrow (P := Tryz.prog) (t := 28) (tx := 28) (ty := 28) (e := 200) (i := Tryz.t200) (z := (Tryz.t200.zero).getD undef) Tryz.underlying28 kr kr kr (base := some ⟨b, 0, none⟩) (sLen := n) (sCap := c) hf1 hsr (by show c < n + 1; omega) hbg kc
   rw [List.drop_zero, hx] at hown
   have H := (hown _ _ _ H).rot
   have hz : zs.length = (k - (n + 1)) * 2 := hz
   have hk1 : n + 1 ≤ k := hk1
   refine SX.given A hrun kr kr fun ac A => Xb [0] A H fun ac w A H => XD (XT (XW (XU ?_)))
   refine SX.retW [0] (.slice (some ⟨nb, 0, none⟩) (n + 1) k) A H kr kr kr ⟨_, rfl, nb, k, (ys ++ ev ++ zs), rfl, by omega, by rw [List.length_append, List.length_append, hl, hevl, hz]; omega, ?_, ((H.as ((nb, .cells (ys ++ ev ++ zs).toArray 200 (0, 0)) :: (b, .cells xs.toArray 200 (0, 0)) :: (bv, .cells ev.toArray 200 (0, 0)) :: bs) kr).skip2).skip2⟩
   have h1n : i = n := by omega
   apply List.ext_getElem?
   intro t
   by_cases ht : t < (n + 1) * 2
   · rw [List.getElem?_take_of_lt ht]
     have ht1 : (ys.take (i * 2)).length = i * 2 := by rw [List.length_take, hl]; omega
     have hR : (ys.take (i * 2) ++ ev ++ ys.drop (i * 2))[t]? = if t < i * 2 then xs[t]? else if t < i * 2 + 2 then ev[t - i * 2]? else (ys.drop (i * 2))[t - (i * 2 + 2)]? := by
      by_cases g1 : t < i * 2
      · rw [if_pos g1, List.append_assoc, List.getElem?_append_left ko, List.getElem?_take_of_lt g1, ← hx, List.getElem?_take_of_lt ko]
      · rw [if_neg g1]
        by_cases g2 : t < i * 2 + 2
        · rw [if_pos g2, List.getElem?_append_left (by rw [List.length_append, ht1, hevl]; omega), List.getElem?_append_right ko, ht1]
        · rw [if_neg g2, List.getElem?_append_right (by rw [List.length_append, ht1, hevl]; omega), List.length_append, ht1, hevl]
     rw [hR]
     rw [show i = n from h1n]
     by_cases g1 : t < n * 2
     · rw [if_pos g1, List.append_assoc, List.getElem?_append_left ko, ← hx, List.getElem?_take_of_lt g1]
     · rw [if_neg g1, if_pos ko, List.getElem?_append_left (by rw [List.length_append, hl, hevl]; omega), List.getElem?_append_right ko, hl]
   · rw [List.getElem?_eq_none (by rw [List.length_take]; omega), List.getElem?_eq_none (by rw [List.length_append, List.length_append, List.length_take, List.length_drop, hl, hevl]; omega)]
 ·
  have A := A.rb 22 h1
  have h1p : ¬ (((i : Nat) : Int) = ((n : Nat) : Int)) := kp h1
  refine Xf A (XK (XT (XS (XS (XR (Xb [0, 0, 0] A H fun ac w A H => ?_))))))
  have A := A.re 28 (.int .i64 (IntKind.i64.wrap (((n : Nat) : Int) + 1))) (.int .i64 ((((n + 1) : Nat) : Int))) kr (SX.i_addN n 1 ko)
  refine Xb [0, 0, 0] A H fun ac w A H => XD (XT ?_)
  refine Xs (decide ((((n + 1) : Nat) : Int) > ((c : Nat) : Int))) (fun h2 => ?_) fun h2 => ?_
  ·
   have A := A.rb 31 h2
   have h2p : (((n + 1) : Nat) : Int) > ((c : Nat) : Int) := kp h2
   refine Xt A (XS (XR (Xb [0, 0] A H fun ac w A H => SX.given A (SX.run_subH (P := Tryz.prog) (w := w) (k' := .i64) (⟨some ⟨b, 0, none⟩, n, c⟩ : SX.Sl) (T := 28) (E := 200) (sz := 2) Tryz.underlying28 kr i (by first | omega | (simp only; omega))) kr kr fun ac A => ?_)))
   have A := A.re 34 ((SX.Sl.sub (⟨some ⟨b, 0, none⟩, n, c⟩ : SX.Sl) 2 0 i).v) (.slice (some ⟨b, 0, none⟩) i c) kr (by rw [SX.sub_head])
   refine Xb [0, 0, 0] A H fun ac w A H => ?_
   have A := A.re 37 (.int .i64 (IntKind.i64.wrap (((n : Nat) : Int) + 1))) (.int .i64 ((((n + 1) : Nat) : Int))) kr (SX.i_addN n 1 ko)
   refine Xb [0, 0] A H fun ac w A H => ?_
   have A := A.re 39 (.int .i64 (IntKind.i64.wrap ((((n + 1) : Nat) : Int) - ((i : Nat) : Int)))) (.int .i64 ((((n + 1 - i) : Nat) : Int))) kr (SX.i_subN (n + 1) i ko ko)
   have hb := H.has (b, .cells xs.toArray 200 (0, 0)) (List.mem_of_getElem? (i := 0) kr)
   have hbv := H.has (bv, .cells ev.toArray 200 (0, 0)) (List.mem_of_getElem? (i := 1) kr)
   have A := A.sub [(0, .slice (some ⟨b, 0, none⟩) n c), (1, .int .i64 (((i : Nat) : Int))), (2, .slice (some ⟨bv, 0, none⟩) 1 1), (6, (.slice none 0 0)), (7, .int .i64 1), (8, .int .i64 (((n : Nat) : Int))), (10, .slice (some ⟨b, 0, none⟩) n c), (11, .int .i64 (((i : Nat) : Int))), (12, (SX.Sl.sub (⟨some ⟨b, 0, none⟩, n, c⟩ : SX.Sl) 2 i n).v), (13, .slice (some ⟨bv, 0, none⟩) 1 1), (14, .int .i64 1), (15, .int .i64 1), (16, .bool false), (18, .slice (some ⟨b, 0, none⟩) n c), (19, .int .i64 (((n : Nat) : Int))), (20, .int .i64 (((i : Nat) : Int))), (21, .int .i64 (((n : Nat) : Int))), (22, .bool false), (26, .int .i64 (((n : Nat) : Int))), (27, .int .i64 1), (28, .int .i64 ((((n + 1) : Nat) : Int))), (29, .slice (some ⟨b, 0, none⟩) n c), (30, .int .i64 (((c : Nat) : Int))), (31, .bool true), (32, .slice (some ⟨b, 0, none⟩) n c), (33, .int .i64 (((i : Nat) : Int))), (34, .slice (some ⟨b, 0, none⟩) i c), (35, .int .i64 (((n : Nat) : Int))), (36, .int .i64 1), (37, .int .i64 ((((n + 1) : Nat) : Int))), (38, .int .i64 (((i : Nat) : Int))), (39, .int .i64 ((((n + 1 - i) : Nat) : Int)))] kr
   have H := H.as ((b, .cells xs.toArray 200 (0, 0)) :: (bv, .cells ev.toArray 200 (0, 0)) :: bs) kr
   have hf1 := SX.run_first (P := Tryz.prog) (w := w.drew) (b := b) (o := 0) (n := i) (c := c) (sz := 2) (xs := xs) hb (by rw [hc]; omega)
   obtain ⟨nb, k, zs, w1, hrun, hown, hk1, hk2, hz⟩ := SX.run_appendZeros (P := Tryz.prog) (t := 28) (tn := 3) (ty := 28) (e := 200) (i := Tryz.t200) (z := (Tryz.t200.zero).getD undef) (kq := .i64) (kn := .i64) Tryz.underlying28 Tryz.underlying3 kr kr kr kc (base := some ⟨b, 0, none⟩) (sLen := i) (sCap := c) hf1 (n + 1 - i) ko ko (by show (i + (n + 1 - i)) * 16 ≤ _; omega) kc
   rw [show i + (n + 1 - i) = n + 1 by omega] at hrun hk1
   rw [List.drop_zero] at hown
   have H := (hown _ _ _ H).rot
   have hz : zs.length = (k - i) * 2 := hz
   have hyl : (xs.take (i * 2)).length = i * 2 := by rw [List.length_take, hc]; omega
   have hwl : (xs.take (i * 2) ++ zs).length = k * 2 := by rw [List.length_append, hyl, hz]; omega
   generalize hw : xs.take (i * 2) ++ zs = x1 at H hwl
   refine SX.given A hrun kr kr fun ac A => Xb [0] A H fun ac w A H => XD (XT (XS (XR (Xb [0, 0] A H fun ac w A H => SX.given A (SX.run_subL (P := Tryz.prog) (w := w) (k' := .i64) (⟨some ⟨nb, 0, none⟩, n + 1, k⟩ : SX.Sl) (T := 28) (E := 200) (sz := 2) Tryz.underlying28 kr i (by first | omega | (simp only; omega))) kr kr fun ac A => ?_))))
   have A := A.re 43 ((SX.Sl.sub (⟨some ⟨nb, 0, none⟩, n + 1, k⟩ : SX.Sl) 2 i (n + 1)).v) (.slice (some ⟨nb, i * 2, none⟩) ((n + 1) - i) (k - i)) kr (by rw [SX.sub_at (c := k) (l := i) ko])
   refine Xb [0] A H fun ac w A H => ?_
   have A := A.sub [(0, .slice (some ⟨b, 0, none⟩) n c), (1, .int .i64 (((i : Nat) : Int))), (2, .slice (some ⟨bv, 0, none⟩) 1 1), (6, (.slice none 0 0)), (7, .int .i64 1), (8, .int .i64 (((n : Nat) : Int))), (9, .slice (some ⟨nb, 0, none⟩) (n + 1) k), (10, .slice (some ⟨b, 0, none⟩) n c), (11, .int .i64 (((i : Nat) : Int))), (12, (SX.Sl.sub (⟨some ⟨b, 0, none⟩, n, c⟩ : SX.Sl) 2 i n).v), (13, .slice (some ⟨bv, 0, none⟩) 1 1), (14, .int .i64 1), (15, .int .i64 1), (16, .bool false), (18, .slice (some ⟨b, 0, none⟩) n c), (19, .int .i64 (((n : Nat) : Int))), (20, .int .i64 (((i : Nat) : Int))), (21, .int .i64 (((n : Nat) : Int))), (22, .bool false), (26, .int .i64 (((n : Nat) : Int))), (27, .int .i64 1), (28, .int .i64 ((((n + 1) : Nat) : Int))), (29, .slice (some ⟨b, 0, none⟩) n c), (30, .int .i64 (((c : Nat) : Int))), (31, .bool true), (32, .slice (some ⟨b, 0, none⟩) n c), (33, .int .i64 (((i : Nat) : Int))), (34, .slice (some ⟨b, 0, none⟩) i c), (35, .int .i64 (((n : Nat) : Int))), (36, .int .i64 1), (37, .int .i64 ((((n + 1) : Nat) : Int))), (38, .int .i64 (((i : Nat) : Int))), (39, .int .i64 ((((n + 1 - i) : Nat) : Int))), (40, .slice (some ⟨nb, 0, none⟩) (n + 1) k), (41, .slice (some ⟨nb, 0, none⟩) (n + 1) k), (42, .int .i64 (((i : Nat) : Int))), (43, .slice (some ⟨nb, i * 2, none⟩) ((n + 1) - i) (k - i)), (44, .slice (some ⟨bv, 0, none⟩) 1 1)] kr
   have H := H.as ((nb, .cells x1.toArray 200 (0, 0)) :: (b, .cells xs.toArray 200 (0, 0)) :: (bv, .cells ev.toArray 200 (0, 0)) :: bs) kr
   have hbd := H.has (nb, .cells (x1).toArray 200 (0, 0)) (List.mem_of_getElem? (i := 0) kr)
   have hbv := H.has (bv, .cells ev.toArray 200 (0, 0)) (List.mem_of_getElem? (i := 2) kr)
   have hf2 := SX.run_first (P := Tryz.prog) (w := w) (b := bv) (o := 0) (n := 1) (c := 1) (sz := 2) (xs := ev) hbv (by rw [hevl]; decide)
   rw [List.drop_zero, List.take_of_length_le (by rw [hevl]; decide)] at hf2
   obtain ⟨x2, w1, hrun, hown, hlB, hgB⟩ := SX.do_copy (P := Tryz.prog) (w := w) (dT := 28) (sT := 28) (ty := 3) (elem := 200) (i := Tryz.t200) Tryz.underlying28 kr (b := nb) (o := i * 2) (dLen := n + 1 - i) (dCap := k - i) (x := .slice (some ⟨bv, 0, none⟩) 1 1) (sLen := 1) (news := ev) 1 (fun _ => rfl) (by simp only [Nat.min_def]; split <;> omega) hf2 hev1 hbd (by rw [hevl]; omega)
   have H := hown _ _ _ H
   refine SX.given A hrun kr kr fun ac A => XD (XT (XS (SX.drawn 9 [] kr A H fun w H => SX.takes [] [(0, none), (1, none), (2, none), (3, none)] A H kr kd kr kr kr (Or.inl kr) fun ac A => ?_)))
   have A := A.re 49 (.int .i64 (IntKind.i64.wrap (((i : Nat) : Int) + 1))) (.int .i64 ((((i + 1) : Nat) : Int))) kr (SX.i_addN i 1 ko)
   refine SX.takeG 4 [] A H kr kd (fun w HK => SX.run_subL (P := Tryz.prog) (w := w) (k' := .i64) (⟨some ⟨nb, 0, none⟩, n + 1, k⟩ : SX.Sl) (T := 28) (E := 200) (sz := 2) Tryz.underlying28 kr (i + 1) (by first | omega | (simp only; omega))) kr kr kr kr kr fun ac A => ?_
   have A := A.re 50 ((SX.Sl.sub (⟨some ⟨nb, 0, none⟩, n + 1, k⟩ : SX.Sl) 2 (i + 1) (n + 1)).v) (.slice (some ⟨nb, (i + 1) * 2, none⟩) ((n + 1) - (i + 1)) (k - (i + 1))) kr (by rw [SX.sub_at (c := k) (l := (i + 1)) ko])
   refine SX.takes [] [(5, none), (6, none)] A H kr kd kr kr kr (Or.inl kr) fun ac A => SX.takeG 7 [] A H kr kd (fun w HK => SX.run_subL (P := Tryz.prog) (w := w) (k' := .i64) (⟨some ⟨b, 0, none⟩, n, c⟩ : SX.Sl) (T := 28) (E := 200) (sz := 2) Tryz.underlying28 kr i (by first | omega | (simp only; omega))) kr kr kr kr kr fun ac A => ?_
   have A := A.re 53 ((SX.Sl.sub (⟨some ⟨b, 0, none⟩, n, c⟩ : SX.Sl) 2 i n).v) (.slice (some ⟨b, i * 2, none⟩) (n - i) (c - i)) kr (by rw [SX.sub_at (c := c) (l := i) ko])
   have A := A.sub [(0, .slice (some ⟨b, 0, none⟩) n c), (1, .int .i64 (((i : Nat) : Int))), (2, .slice (some ⟨bv, 0, none⟩) 1 1), (6, (.slice none 0 0)), (7, .int .i64 1), (8, .int .i64 (((n : Nat) : Int))), (9, .slice (some ⟨nb, 0, none⟩) (n + 1) k), (10, .slice (some ⟨b, 0, none⟩) n c), (11, .int .i64 (((i : Nat) : Int))), (12, (SX.Sl.sub (⟨some ⟨b, 0, none⟩, n, c⟩ : SX.Sl) 2 i n).v), (13, .slice (some ⟨bv, 0, none⟩) 1 1), (14, .int .i64 1), (15, .int .i64 1), (16, .bool false), (18, .slice (some ⟨b, 0, none⟩) n c), (19, .int .i64 (((n : Nat) : Int))), (20, .int .i64 (((i : Nat) : Int))), (21, .int .i64 (((n : Nat) : Int))), (22, .bool false), (26, .int .i64 (((n : Nat) : Int))), (27, .int .i64 1), (28, .int .i64 ((((n + 1) : Nat) : Int))), (29, .slice (some ⟨b, 0, none⟩) n c), (30, .int .i64 (((c : Nat) : Int))), (31, .bool true), (32, .slice (some ⟨b, 0, none⟩) n c), (33, .int .i64 (((i : Nat) : Int))), (34, .slice (some ⟨b, 0, none⟩) i c), (35, .int .i64 (((n : Nat) : Int))), (36, .int .i64 1), (37, .int .i64 ((((n + 1) : Nat) : Int))), (38, .int .i64 (((i : Nat) : Int))), (39, .int .i64 ((((n + 1 - i) : Nat) : Int))), (40, .slice (some ⟨nb, 0, none⟩) (n + 1) k), (41, .slice (some ⟨nb, 0, none⟩) (n + 1) k), (42, .int .i64 (((i : Nat) : Int))), (43, .slice (some ⟨nb, i * 2, none⟩) ((n + 1) - i) (k - i)), (44, .slice (some ⟨bv, 0, none⟩) 1 1), (45, .int .i64 1), (46, .slice (some ⟨nb, 0, none⟩) (n + 1) k), (47, .int .i64 (((i : Nat) : Int))), (48, .int .i64 1), (49, .int .i64 ((((i + 1) : Nat) : Int))), (50, .slice (some ⟨nb, (i + 1) * 2, none⟩) ((n + 1) - (i + 1)) (k - (i + 1))), (51, .slice (some ⟨b, 0, none⟩) n c), (52, .int .i64 (((i : Nat) : Int))), (53, .slice (some ⟨b, i * 2, none⟩) (n - i) (c - i))] kr
   have H := H.as ((nb, .cells x2.toArray 200 (0, 0)) :: (b, .cells xs.toArray 200 (0, 0)) :: (bv, .cells ev.toArray 200 (0, 0)) :: bs) kr
   have hbd := H.has (nb, .cells (x2).toArray 200 (0, 0)) (List.mem_of_getElem? (i := 0) kr)
   have hbs := H.has (b, .cells xs.toArray 200 (0, 0)) (List.mem_of_getElem? (i := 1) kr)
   have hf3 := SX.run_firstN (P := Tryz.prog) (w := w) (b := b) (o := i * 2) (n := n - i) (l := n - i) (c := c - i) (sz := 2) (xs := xs) hbs (by rw [hc]; omega)
   have hnw : (xs.drop (i * 2)).take ((n - i) * 2) = ys.drop (i * 2) := by rw [← hx, List.drop_take]; congr 1; omega
   rw [hnw] at hf3
   have hnwl : (ys.drop (i * 2)).length = (n - i) * 2 := by rw [List.length_drop, hl]; omega
   have hnw1 : ∀ u ∈ ys.drop (i * 2), u.oneCell' = true := fun u hu => h1o u (List.mem_of_mem_drop hu)
   obtain ⟨x3, w1, hrun, hown, hlC, hgC⟩ := SX.do_copy (P := Tryz.prog) (w := w) (dT := 28) (sT := 28) (ty := 3) (elem := 200) (i := Tryz.t200) Tryz.underlying28 kr (b := nb) (o := (i + 1) * 2) (dLen := n + 1 - (i + 1)) (dCap := k - (i + 1)) (x := .slice (some ⟨b, i * 2, none⟩) (n - i) (c - i)) (sLen := n - i) (news := ys.drop (i * 2)) (n - i) (fun _ => rfl) (by simp only [Nat.min_def]; split <;> omega) hf3 hnw1 hbd (by rw [hnwl]; omega)
   have H := hown _ _ _ H
   refine SX.actG 8 [] A hrun H kr kr kr kr (Or.inl kr) fun ac A => ?_
   refine SX.doneD kr ?_ _
   refine XT (XS (XR (Xb [0, 0] A H fun ac w A H => XD (XT (XW (XU ?_))))))
   refine SX.retW [0] (.slice (some ⟨nb, 0, none⟩) (n + 1) k) A H kr kr kr ⟨_, rfl, nb, k, x3, rfl, by omega, by rw [hlC, hlB, hwl], ?_, ((H.as ((nb, .cells x3.toArray 200 (0, 0)) :: (b, .cells xs.toArray 200 (0, 0)) :: (bv, .cells ev.toArray 200 (0, 0)) :: bs) kr).skip2).skip2⟩
   apply List.ext_getElem?
   intro t
   by_cases ht : t < (n + 1) * 2
   · rw [List.getElem?_take_of_lt ht]
     have ht1 : (ys.take (i * 2)).length = i * 2 := by rw [List.length_take, hl]; omega
     have hR : (ys.take (i * 2) ++ ev ++ ys.drop (i * 2))[t]? = if t < i * 2 then xs[t]? else if t < i * 2 + 2 then ev[t - i * 2]? else (ys.drop (i * 2))[t - (i * 2 + 2)]? := by
      by_cases g1 : t < i * 2
      · rw [if_pos g1, List.append_assoc, List.getElem?_append_left ko, List.getElem?_take_of_lt g1, ← hx, List.getElem?_take_of_lt ko]
      · rw [if_neg g1]
        by_cases g2 : t < i * 2 + 2
        · rw [if_pos g2, List.getElem?_append_left (by rw [List.length_append, ht1, hevl]; omega), List.getElem?_append_right ko, ht1]
        · rw [if_neg g2, List.getElem?_append_right (by rw [List.length_append, ht1, hevl]; omega), List.length_append, ht1, hevl]
     rw [hR]
     rw [hgC, hgB, hevl, hnwl]
     by_cases g1 : t < i * 2
     · rw [if_pos ko, if_pos g1, if_pos g1, ← hw, List.getElem?_append_left ko, List.getElem?_take_of_lt g1]
     · rw [if_neg g1]
       by_cases g2 : t < i * 2 + 2
       · rw [if_pos ko, if_neg g1, if_pos g2, if_pos g2]
       · have g3 : ¬ t < (i + 1) * 2 := by omega
         have g4 : t < (i + 1) * 2 + (n - i) * 2 := by omega
         simp only [if_neg g1, if_neg g2, if_neg g3, if_pos g4]; congr 1; omega
   · rw [List.getElem?_eq_none (by rw [List.length_take]; omega), List.getElem?_eq_none (by rw [List.length_append, List.length_append, List.length_take, List.length_drop, hl, hevl]; omega)]
  ·
   have A := A.rb 31 h2
   have h2p : ¬ ((((n + 1) : Nat) : Int) > ((c : Nat) : Int)) := kp h2
   refine Xf A (XK (XT (XS (XR (Xb [0, 0, 0, 0] A H fun ac w A H => ?_)))))
   have A := A.re 59 (.int .i64 (IntKind.i64.wrap (((n : Nat) : Int) + 1))) (.int .i64 ((((n + 1) : Nat) : Int))) kr (SX.i_addN n 1 ko)
   refine SX.given A (SX.run_subH (P := Tryz.prog) (w := w) (k' := .i64) (⟨some ⟨b, 0, none⟩, n, c⟩ : SX.Sl) (T := 28) (E := 200) (sz := 2) Tryz.underlying28 kr (n + 1) (by first | omega | (simp only; omega))) kr kr fun ac A => ?_
   have A := A.re 60 ((SX.Sl.sub (⟨some ⟨b, 0, none⟩, n, c⟩ : SX.Sl) 2 0 (n + 1)).v) (.slice (some ⟨b, 0, none⟩) (n + 1) c) kr (by rw [SX.sub_head])
   refine Xb [0] A H fun ac w A H => XD (XT (XS (XS (XR (Xb [0, 0, 0, 0, 0] A H fun ac w A H => ?_)))))
   have A := A.re 65 (.int .i64 (IntKind.i64.wrap (((i : Nat) : Int) + 1))) (.int .i64 ((((i + 1) : Nat) : Int))) kr (SX.i_addN i 1 ko)
   refine SX.given A (SX.run_subL (P := Tryz.prog) (w := w) (k' := .i64) (⟨some ⟨b, 0, none⟩, (n + 1), c⟩ : SX.Sl) (T := 28) (E := 200) (sz := 2) Tryz.underlying28 kr (i + 1) (by first | omega | (simp only; omega))) kr kr fun ac A => ?_
   have A := A.re 66 ((SX.Sl.sub (⟨some ⟨b, 0, none⟩, (n + 1), c⟩ : SX.Sl) 2 (i + 1) (n + 1)).v) (.slice (some ⟨b, (i + 1) * 2, none⟩) ((n + 1) - (i + 1)) (c - (i + 1))) kr (by rw [SX.sub_at (c := c) (l := (i + 1)) ko])
   have hb := H.has (b, .cells xs.toArray 200 (0, 0)) (List.mem_of_getElem? (i := 0) kr)
   have hbv := H.has (bv, .cells ev.toArray 200 (0, 0)) (List.mem_of_getElem? (i := 1) kr)
   have hov : (callFunc 223 #[.slice (some ⟨bv, 0, none⟩) 1 1, .slice (some ⟨b, (i + 1) * 2, none⟩) (n + 1 - (i + 1)) (c - (i + 1))]).run Tryz.prog w = .ok (.value (.bool false)) w := by
    rw [run_callFunc_extern (f := 223) (fn := Tryz.f223) rfl kr kr kr (e := Extern.SlicesOverlaps.overlaps #[28, 28] #[4]) kr,
     Lib.run_overlaps_apart w 28 4 200 Tryz.underlying28 2 (fun _ => by kernel_rfl) ⟨bv, 0, none⟩ ⟨b, (i + 1) * 2, none⟩ 1 1 (n + 1 - (i + 1)) (c - (i + 1)) (fun h => hne h.symm) 200 200 2 (c * 2) (by simp only [World.shape?, hbv]; simp [hevl]) (by simp only [World.shape?, hb]; simp [hc]) ko (by simp [World.frozen?, hbv]) (by simp [World.frozen?, hbv])]
    rfl
   refine SX.given A hov kr kr fun ac A => Xb [0] A H fun ac w A H => XD (XT (Xt A (XS (SX.drawn 9 [] kr A H fun w H => SX.takes [] [(0, none), (1, none), (2, none), (3, none)] A H kr kd kr kr kr (Or.inl kr) fun ac A => ?_))))
   have A := A.re 72 (.int .i64 (IntKind.i64.wrap (((i : Nat) : Int) + 1))) (.int .i64 ((((i + 1) : Nat) : Int))) kr (SX.i_addN i 1 ko)
   refine SX.takeG 4 [] A H kr kd (fun w HK => SX.run_subL (P := Tryz.prog) (w := w) (k' := .i64) (⟨some ⟨b, 0, none⟩, (n + 1), c⟩ : SX.Sl) (T := 28) (E := 200) (sz := 2) Tryz.underlying28 kr (i + 1) (by first | omega | (simp only; omega))) kr kr kr kr kr fun ac A => ?_
   have A := A.re 73 ((SX.Sl.sub (⟨some ⟨b, 0, none⟩, (n + 1), c⟩ : SX.Sl) 2 (i + 1) (n + 1)).v) (.slice (some ⟨b, (i + 1) * 2, none⟩) ((n + 1) - (i + 1)) (c - (i + 1))) kr (by rw [SX.sub_at (c := c) (l := (i + 1)) ko])
   refine SX.takes [] [(5, none), (6, none)] A H kr kd kr kr kr (Or.inl kr) fun ac A => SX.takeG 7 [] A H kr kd (fun w HK => SX.run_subL (P := Tryz.prog) (w := w) (k' := .i64) (⟨some ⟨b, 0, none⟩, (n + 1), c⟩ : SX.Sl) (T := 28) (E := 200) (sz := 2) Tryz.underlying28 kr i (by first | omega | (simp only; omega))) kr kr kr kr kr fun ac A => ?_
   have A := A.re 76 ((SX.Sl.sub (⟨some ⟨b, 0, none⟩, (n + 1), c⟩ : SX.Sl) 2 i (n + 1)).v) (.slice (some ⟨b, i * 2, none⟩) ((n + 1) - i) (c - i)) kr (by rw [SX.sub_at (c := c) (l := i) ko])
   have A := A.sub [(0, .slice (some ⟨b, 0, none⟩) (n + 1) c), (1, .int .i64 (((i : Nat) : Int))), (2, .slice (some ⟨bv, 0, none⟩) 1 1), (6, (.slice none 0 0)), (7, .int .i64 1), (8, .int .i64 (((n : Nat) : Int))), (10, .slice (some ⟨b, 0, none⟩) n c), (11, .int .i64 (((i : Nat) : Int))), (12, (SX.Sl.sub (⟨some ⟨b, 0, none⟩, n, c⟩ : SX.Sl) 2 i n).v), (13, .slice (some ⟨bv, 0, none⟩) 1 1), (14, .int .i64 1), (15, .int .i64 1), (16, .bool false), (18, .slice (some ⟨b, 0, none⟩) n c), (19, .int .i64 (((n : Nat) : Int))), (20, .int .i64 (((i : Nat) : Int))), (21, .int .i64 (((n : Nat) : Int))), (22, .bool false), (26, .int .i64 (((n : Nat) : Int))), (27, .int .i64 1), (28, .int .i64 ((((n + 1) : Nat) : Int))), (29, .slice (some ⟨b, 0, none⟩) n c), (30, .int .i64 (((c : Nat) : Int))), (31, .bool false), (56, .slice (some ⟨b, 0, none⟩) n c), (57, .int .i64 (((n : Nat) : Int))), (58, .int .i64 1), (59, .int .i64 ((((n + 1) : Nat) : Int))), (60, .slice (some ⟨b, 0, none⟩) (n + 1) c), (61, .slice (some ⟨bv, 0, none⟩) 1 1), (62, .slice (some ⟨b, 0, none⟩) (n + 1) c), (63, .int .i64 (((i : Nat) : Int))), (64, .int .i64 1), (65, .int .i64 ((((i + 1) : Nat) : Int))), (66, .slice (some ⟨b, (i + 1) * 2, none⟩) ((n + 1) - (i + 1)) (c - (i + 1))), (67, .bool false), (68, .bool true), (69, .slice (some ⟨b, 0, none⟩) (n + 1) c), (70, .int .i64 (((i : Nat) : Int))), (71, .int .i64 1), (72, .int .i64 ((((i + 1) : Nat) : Int))), (73, .slice (some ⟨b, (i + 1) * 2, none⟩) ((n + 1) - (i + 1)) (c - (i + 1))), (74, .slice (some ⟨b, 0, none⟩) (n + 1) c), (75, .int .i64 (((i : Nat) : Int))), (76, .slice (some ⟨b, i * 2, none⟩) ((n + 1) - i) (c - i))] kr
   have H := H.as ((b, .cells xs.toArray 200 (0, 0)) :: (bv, .cells ev.toArray 200 (0, 0)) :: bs) kr
   have hbd := H.has (b, .cells (xs).toArray 200 (0, 0)) (List.mem_of_getElem? (i := 0) kr)
   have hbs := H.has (b, .cells xs.toArray 200 (0, 0)) (List.mem_of_getElem? (i := 0) kr)
   have hf3 := SX.run_firstN (P := Tryz.prog) (w := w) (b := b) (o := i * 2) (n := n - i) (l := n + 1 - i) (c := c - i) (sz := 2) (xs := xs) hbs (by rw [hc]; omega)
   have hnw : (xs.drop (i * 2)).take ((n - i) * 2) = ys.drop (i * 2) := by rw [← hx, List.drop_take]; congr 1; omega
   rw [hnw] at hf3
   have hnwl : (ys.drop (i * 2)).length = (n - i) * 2 := by rw [List.length_drop, hl]; omega
   have hnw1 : ∀ u ∈ ys.drop (i * 2), u.oneCell' = true := fun u hu => h1o u (List.mem_of_mem_drop hu)
   obtain ⟨x2, w1, hrun, hown, hlD, hgD⟩ := SX.do_copy (P := Tryz.prog) (w := w) (dT := 28) (sT := 28) (ty := 3) (elem := 200) (i := Tryz.t200) Tryz.underlying28 kr (b := b) (o := (i + 1) * 2) (dLen := n + 1 - (i + 1)) (dCap := c - (i + 1)) (x := .slice (some ⟨b, i * 2, none⟩) (n + 1 - i) (c - i)) (sLen := n + 1 - i) (news := ys.drop (i * 2)) (n - i) (fun _ => rfl) (by simp only [Nat.min_def]; split <;> omega) hf3 hnw1 hbd (by rw [hnwl]; omega)
   have H := hown _ _ _ H
   refine SX.actG 8 [] A hrun H kr kr kr kr (Or.inl kr) fun ac A => ?_
   refine SX.doneD kr ?_ _
   refine XT (XS (XR (Xb [0, 0] A H fun ac w A H => SX.given A (SX.run_subL (P := Tryz.prog) (w := w) (k' := .i64) (⟨some ⟨b, 0, none⟩, (n + 1), c⟩ : SX.Sl) (T := 28) (E := 200) (sz := 2) Tryz.underlying28 kr i (by first | omega | (simp only; omega))) kr kr fun ac A => ?_)))
   have A := A.re 80 ((SX.Sl.sub (⟨some ⟨b, 0, none⟩, (n + 1), c⟩ : SX.Sl) 2 i (n + 1)).v) (.slice (some ⟨b, i * 2, none⟩) ((n + 1) - i) (c - i)) kr (by rw [SX.sub_at (c := c) (l := i) ko])
   refine Xb [0] A H fun ac w A H => ?_
   have A := A.sub [(0, .slice (some ⟨b, 0, none⟩) (n + 1) c), (1, .int .i64 (((i : Nat) : Int))), (2, .slice (some ⟨bv, 0, none⟩) 1 1), (6, (.slice none 0 0)), (7, .int .i64 1), (8, .int .i64 (((n : Nat) : Int))), (10, .slice (some ⟨b, 0, none⟩) n c), (11, .int .i64 (((i : Nat) : Int))), (12, (SX.Sl.sub (⟨some ⟨b, 0, none⟩, n, c⟩ : SX.Sl) 2 i n).v), (13, .slice (some ⟨bv, 0, none⟩) 1 1), (14, .int .i64 1), (15, .int .i64 1), (16, .bool false), (18, .slice (some ⟨b, 0, none⟩) n c), (19, .int .i64 (((n : Nat) : Int))), (20, .int .i64 (((i : Nat) : Int))), (21, .int .i64 (((n : Nat) : Int))), (22, .bool false), (26, .int .i64 (((n : Nat) : Int))), (27, .int .i64 1), (28, .int .i64 ((((n + 1) : Nat) : Int))), (29, .slice (some ⟨b, 0, none⟩) n c), (30, .int .i64 (((c : Nat) : Int))), (31, .bool false), (56, .slice (some ⟨b, 0, none⟩) n c), (57, .int .i64 (((n : Nat) : Int))), (58, .int .i64 1), (59, .int .i64 ((((n + 1) : Nat) : Int))), (60, .slice (some ⟨b, 0, none⟩) (n + 1) c), (61, .slice (some ⟨bv, 0, none⟩) 1 1), (62, .slice (some ⟨b, 0, none⟩) (n + 1) c), (63, .int .i64 (((i : Nat) : Int))), (64, .int .i64 1), (65, .int .i64 ((((i + 1) : Nat) : Int))), (66, .slice (some ⟨b, (i + 1) * 2, none⟩) ((n + 1) - (i + 1)) (c - (i + 1))), (67, .bool false), (68, .bool true), (69, .slice (some ⟨b, 0, none⟩) (n + 1) c), (70, .int .i64 (((i : Nat) : Int))), (71, .int .i64 1), (72, .int .i64 ((((i + 1) : Nat) : Int))), (73, .slice (some ⟨b, (i + 1) * 2, none⟩) ((n + 1) - (i + 1)) (c - (i + 1))), (74, .slice (some ⟨b, 0, none⟩) (n + 1) c), (75, .int .i64 (((i : Nat) : Int))), (76, .slice (some ⟨b, i * 2, none⟩) ((n + 1) - i) (c - i)), (77, .int .i64 ((((n - i) : Nat) : Int))), (78, .slice (some ⟨b, 0, none⟩) (n + 1) c), (79, .int .i64 (((i : Nat) : Int))), (80, .slice (some ⟨b, i * 2, none⟩) ((n + 1) - i) (c - i)), (81, .slice (some ⟨bv, 0, none⟩) 1 1)] kr
   have H := H.as ((b, .cells x2.toArray 200 (0, 0)) :: (bv, .cells ev.toArray 200 (0, 0)) :: bs) kr
   have hbd := H.has (b, .cells (x2).toArray 200 (0, 0)) (List.mem_of_getElem? (i := 0) kr)
   have hbv := H.has (bv, .cells ev.toArray 200 (0, 0)) (List.mem_of_getElem? (i := 1) kr)
   have hf2 := SX.run_first (P := Tryz.prog) (w := w) (b := bv) (o := 0) (n := 1) (c := 1) (sz := 2) (xs := ev) hbv (by rw [hevl]; decide)
   rw [List.drop_zero, List.take_of_length_le (by rw [hevl]; decide)] at hf2
   obtain ⟨x3, w1, hrun, hown, hlE, hgE⟩ := SX.do_copy (P := Tryz.prog) (w := w) (dT := 28) (sT := 28) (ty := 3) (elem := 200) (i := Tryz.t200) Tryz.underlying28 kr (b := b) (o := i * 2) (dLen := n + 1 - i) (dCap := c - i) (x := .slice (some ⟨bv, 0, none⟩) 1 1) (sLen := 1) (news := ev) 1 (fun _ => rfl) (by simp only [Nat.min_def]; split <;> omega) hf2 hev1 hbd (by rw [hevl]; omega)
   have H := hown _ _ _ H
   refine SX.given A hrun kr kr fun ac A => XD (XT (XS (XR (Xb [0, 0] A H fun ac w A H => XD (XT (XW (XU ?_)))))))
   refine SX.retW [0] (.slice (some ⟨b, 0, none⟩) (n + 1) c) A H kr kr kr ⟨_, rfl, b, c, x3, rfl, by omega, by rw [hlE, hlD, hc], ?_, (H.as ((b, .cells x3.toArray 200 (0, 0)) :: (bv, .cells ev.toArray 200 (0, 0)) :: bs) kr).skip2⟩
   apply List.ext_getElem?
   intro t
   by_cases ht : t < (n + 1) * 2
   · rw [List.getElem?_take_of_lt ht]
     have ht1 : (ys.take (i * 2)).length = i * 2 := by rw [List.length_take, hl]; omega
     have hR : (ys.take (i * 2) ++ ev ++ ys.drop (i * 2))[t]? = if t < i * 2 then xs[t]? else if t < i * 2 + 2 then ev[t - i * 2]? else (ys.drop (i * 2))[t - (i * 2 + 2)]? := by
      by_cases g1 : t < i * 2
      · rw [if_pos g1, List.append_assoc, List.getElem?_append_left ko, List.getElem?_take_of_lt g1, ← hx, List.getElem?_take_of_lt ko]
      · rw [if_neg g1]
        by_cases g2 : t < i * 2 + 2
        · rw [if_pos g2, List.getElem?_append_left (by rw [List.length_append, ht1, hevl]; omega), List.getElem?_append_right ko, ht1]
        · rw [if_neg g2, List.getElem?_append_right (by rw [List.length_append, ht1, hevl]; omega), List.length_append, ht1, hevl]
     rw [hR]
     rw [hgE, hevl, hgD, hnwl]
     by_cases g1 : t < i * 2
     · rw [if_pos g1, if_pos g1, if_pos ko]
     · rw [if_neg g1, if_neg g1]
       by_cases g2 : t < i * 2 + 2
       · rw [if_pos g2, if_pos g2]
       · rw [if_neg g2, if_neg g2, if_neg ko, if_pos ko]; congr 1; omega
   · rw [List.getElem?_eq_none (by rw [List.length_take]; omega), List.getElem?_eq_none (by rw [List.length_append, List.length_append, List.length_take, List.length_drop, hl, hevl]; omega)]
theorem insnil_calls {w0 : World} {bs : SX.Boxes} {ro : SX.Rd} (bv at_ v : Nat) (w : World) (H : SX.Own w0 w ((bv, .cells #[.int .u64 at_, .int .u64 v] 200 (0, 0)) :: bs) ro) :
 Calls Tryz.prog 194 #[.slice none 0 0, .int .i64 0, .slice (some ⟨bv, 0, none⟩) 1 1] w (fun e w' => ∃ u, e = .returned u ∧ ∃ b' c', ∃ xs' : List Value, u = .slice (some ⟨b', 0, none⟩) 1 c' ∧ 1 ≤ c' ∧ xs'.length = c' * 2 ∧ xs'.take 2 = [.int .u64 at_, .int .u64 v] ∧ SX.Own w0 w' ((b', .cells xs'.toArray 200 (0, 0)) :: bs) ro) := by
 generalize hev : ([.int .u64 at_, .int .u64 v] : List Value) = ev at *
 have hev1 : ∀ u ∈ ev, u.oneCell' = true := by subst hev; intro u hu; simp only [List.mem_cons, List.not_mem_nil, or_false] at hu; rcases hu with rfl | rfl <;> rfl
 have hevl : ev.length = 2 := by subst hev; rfl
 have H : SX.Own w0 w ((bv, .cells ev.toArray 200 (0, 0)) :: bs) ro := by subst hev; exact H
 refine SX.enterA (args := [.slice none 0 0, .int .i64 0, .slice (some ⟨bv, 0, none⟩) 1 1]) 95 Tryz.func194 rfl kr fun ac A => XS (XR (Xb [0] A H fun ac w A H => XD (XT (XS (XR (Xb [0, 0, 0] A H fun ac w A H => XD (XT (XS (XR (Xb [0, 0, 0] A H fun ac w A H => XD (XT (XS (XS (XR (Xb [0, 0] A H fun ac w A H => XD (XT (Xf A (XK (XT (XS (XR (Xb [0, 0, 0] A H fun ac w A H => XD (XT (XS (XS (XR (Xb [0, 0, 0] A H fun ac w A H => XD (XT (Xt A (XS (XR (Xb [0, 0] A H fun ac w A H => ?_))))))))))))))))))))))))))))))))
 have H := H.as ((bv, .cells ev.toArray 200 (0, 0)) :: bs) kr
 have hbv := H.has (bv, .cells ev.toArray 200 (0, 0)) (List.mem_of_getElem? (i := 0) kr)
 have hsr := SX.SlAt.src (P := Tryz.prog) (SX.slAt_own (n := 1) (c := 1) (sz := 2) hbv hevl (Nat.le_refl 1) (List.take_of_length_le (by rw [hevl]; decide))) (tx := 28) Tryz.underlying28 hev1
 obtain ⟨nb, k, zs, w1, hrun, hown, hk1, hk2, hz⟩ := SX.run_appendGrow (P := Tryz.prog) (t := 28) (tx := 28) (ty := 28) (e := 200) (i := Tryz.t200) (z := (Tryz.t200.zero).getD undef) Tryz.underlying28 kr kr kr (base := none) (sLen := 0) (sCap := 0) (olds := []) (by rfl) hsr (show (0 : Nat) < 0 + 1 by decide) (show (0 + 1) * 16 ≤ 140737488355328 by decide) kc
 have H := (hown _ _ _ H).rot
 have hz : zs.length = (k - (0 + 1)) * 2 := hz
 have hk1 : 0 + 1 ≤ k := hk1
 refine SX.given A hrun kr kr fun ac A => Xb [0] A H fun ac w A H => XD (XT (XW (XU ?_)))
 refine SX.retW [0] (.slice (some ⟨nb, 0, none⟩) 1 k) A H kr kr kr ⟨_, rfl, nb, k, ev ++ zs, rfl, by omega, by rw [List.length_append, hevl, hz]; omega, by rw [List.take_append_of_le_length ko, List.take_of_length_le ko], SX.Own.skip2 (H.as ((nb, .cells (ev ++ zs).toArray 200 (0, 0)) :: (bv, .cells ev.toArray 200 (0, 0)) :: bs) kr)⟩
end Go.Proofs.YtfkmcdkncmapmaaGreatDoor
