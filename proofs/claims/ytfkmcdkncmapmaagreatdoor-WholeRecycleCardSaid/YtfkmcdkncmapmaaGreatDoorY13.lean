/- Walks of functions, written by the session's own program wip/sx/sxgen.py; Lean checks them. -/
import Derived.Test.YtfkmcdkncmapmaaGreatDoorY02
import Derived.Test.YtfkmcdkncmapmaaGreatDoorY12
import Derived.Test.YtfkmcdkncmapmaaGreatDoorY03
import Derived.Test.YtfkmcdkncmapmaaGreatDoorProg
set_option linter.unusedVariables false
set_option linter.unusedSimpArgs false
set_option maxRecDepth 100000
set_option maxHeartbeats 1000000
namespace Go.Proofs.YtfkmcdkncmapmaaGreatDoor
open Go Go.RowKit
namespace SX
/-- A row of one's own that a call has made. -/
def Fresh (lo : Nat) (w : World) (v : Value) (E : TypeId) (sz n : Nat) (ys : List Value) : Prop :=
 (v = .slice none 0 0 ∧ n = 0 ∧ ys = []) ∨ ∃ b c zs, v = .slice (some ⟨b, 0, none⟩) n c ∧ w.heap[b]? = some (.cells (ys ++ zs).toArray E (0, 0)) ∧ lo ≤ b ∧ (ys ++ zs).length = c * sz ∧ ys.length = n * sz ∧ n ≤ c ∧ c ≤ 9223372036854775807
end SX
theorem cloneC (ys : List Value) (s : SX.Sl) (w0 : World) {no : List Nat} (hs : SX.SlAt w0 no s 2 ys) (h1 : ∀ u ∈ ys, u.oneCell' = true) (hbig : s.n * 16 ≤ 140737488355328) :
 SX.Rets Tryz.prog 192 #[s.v] w0 (fun v w => SX.Fresh w0.heap.size w v 200 2 s.n ys) := by
 have hsrc := fun w (h : SX.SlAt w [] s 2 ys) => SX.SlAt.src (P := Tryz.prog) h (tx := 28) Tryz.underlying28 h1
 have hs2 := hs.any
 rcases hs with ⟨rfl, rfl⟩ | ⟨b, off, cs, E, fr, ha, hb, hbn, hl, hlc, hc⟩
 · refine SX.enter (args := [.slice none 0 0]) 8 Tryz.func192 rfl kr fun ac A H => ?_
   refine XS (XR (Xb [0] A H fun ac w A H => XD (XT (XS (XS (XR (Xb [0, 0] A H fun ac w A H => XD (XT (Xt A (XS (XR (Xb [0] A H fun ac w A H => XD (XT (XW (XU (Xr [0] ((.slice none 0 0)) A H ?_))))))))))))))))
   exact .inl ⟨rfl, rfl, rfl⟩
 · obtain ⟨a, n, c⟩ := s
   simp only at ha hl hlc hbig; subst ha
   refine SX.enter (args := [.slice (some ⟨b, off, none⟩) n c]) 8 Tryz.func192 rfl kr fun ac A H => ?_
   have H := H.known (SX.slF ⟨some ⟨b, off, none⟩, n, c⟩ 2 ys) hs2
   refine XS (XR (Xb [0] A H fun ac w A H => XD (XT (XS (XS (XR (Xb [0, 0] A H fun ac w A H => XD (XT (Xf A (XK (XT (XS (XR (Xb [0, 0] A H fun ac w A H => ?_))))))))))))))
   have hsw := (H.fact' 0 (SX.slF ⟨some ⟨b, off, none⟩, n, c⟩ 2 ys) kr)
   have hsr := hsrc w (SX.SlAt.any hsw)
   have hfr := H.fresh (SX.bb H 0, .cells #[] 200 (0, 0)) (List.mem_of_getElem? (i := 0) kr)
   by_cases hn : n = 0
   · subst hn
     have hy : ys = [] := List.eq_nil_of_length_eq_zero (by simp [hl])
     subst hy
     refine SX.given A (SX.run_appendNone (P := Tryz.prog) (t := 28) (tx := 28) (ty := 28) (i := Tryz.t200) Tryz.underlying28 kr (some ⟨SX.bb H 0, 0, none⟩) (sLen := 0) (sCap := 0) (Nat.le_refl 0) hsr) kr kr fun ac A => Xb [0] A H fun ac w A H => XD (XT (XW (Xr [0] (.slice (some ⟨SX.bb H 0, 0, none⟩) 0 0) A H ?_)))
     exact .inr ⟨SX.bb H 0, 0, [], rfl, SX.boxHas H 0 #[] 200 kr kr, hfr, by simp, by simp, Nat.le_refl _, by decide⟩
   have hg : (0 : Nat) < 0 + n := by omega
   have hbg : (0 + n) * Tryz.t200.bytes ≤ 140737488355328 := by rw [Nat.zero_add]; exact hbig
   obtain ⟨nb, k, zs, w1, hrun, hown, hk1, hk2, hz⟩ := SX.run_appendGrow (P := Tryz.prog) (t := 28) (tx := 28) (ty := 28) (e := 200) (i := Tryz.t200) (z := (Tryz.t200.zero).getD undef) Tryz.underlying28 kr kr kr (base := some ⟨SX.bb H 0, 0, none⟩) (sLen := 0) (sCap := 0) (olds := []) (by simp only [Builtin.firstCells, Nat.zero_mul] <;> rfl) hsr hg hbg kc
   have H := hown _ _ _ H
   rw [Nat.zero_add] at hrun hk1 hz
   have hz : zs.length = (k - n) * 2 := hz
   have hk1 : n ≤ k := hk1
   refine SX.given A hrun kr kr fun ac A => Xb [0] A H fun ac w A H => XD (XT (XW (Xr [0] (.slice (some ⟨nb, 0, none⟩) n k) A H ?_)))
   refine .inr ⟨nb, k, zs, rfl, H.has (nb, .cells (ys ++ zs).toArray 200 (0, 0)) (List.mem_of_getElem? (i := 1) kr), H.fresh (nb, .cells (ys ++ zs).toArray 200 (0, 0)) (List.mem_of_getElem? (i := 1) kr), ?_, hl, hk1, hk2⟩
   rw [List.length_append, hl, hz]; omega
theorem cloneS (ys : List Value) (s : SX.Sl) (w0 : World) {no : List Nat} (hs : SX.SlAt w0 no s 45 ys) (h1 : ∀ u ∈ ys, u.oneCell' = true) (hbig : s.n * 232 ≤ 140737488355328) :
 SX.Rets Tryz.prog 235 #[s.v] w0 (fun v w => SX.Fresh w0.heap.size w v 279 45 s.n ys) := by
 have hsrc := fun w (h : SX.SlAt w [] s 45 ys) => SX.SlAt.src (P := Tryz.prog) h (tx := 31) Tryz.underlying31 h1
 have hs2 := hs.any
 rcases hs with ⟨rfl, rfl⟩ | ⟨b, off, cs, E, fr, ha, hb, hbn, hl, hlc, hc⟩
 · refine SX.enter (args := [.slice none 0 0]) 8 Tryz.func235 rfl kr fun ac A H => ?_
   refine XS (XR (Xb [0] A H fun ac w A H => XD (XT (XS (XS (XR (Xb [0, 0] A H fun ac w A H => XD (XT (Xt A (XS (XR (Xb [0] A H fun ac w A H => XD (XT (XW (XU (Xr [0] ((.slice none 0 0)) A H ?_))))))))))))))))
   exact .inl ⟨rfl, rfl, rfl⟩
 · obtain ⟨a, n, c⟩ := s
   simp only at ha hl hlc hbig; subst ha
   refine SX.enter (args := [.slice (some ⟨b, off, none⟩) n c]) 8 Tryz.func235 rfl kr fun ac A H => ?_
   have H := H.known (SX.slF ⟨some ⟨b, off, none⟩, n, c⟩ 45 ys) hs2
   refine XS (XR (Xb [0] A H fun ac w A H => XD (XT (XS (XS (XR (Xb [0, 0] A H fun ac w A H => XD (XT (Xf A (XK (XT (XS (XR (Xb [0, 0] A H fun ac w A H => ?_))))))))))))))
   have hsw := (H.fact' 0 (SX.slF ⟨some ⟨b, off, none⟩, n, c⟩ 45 ys) kr)
   have hsr := hsrc w (SX.SlAt.any hsw)
   have hfr := H.fresh (SX.bb H 0, .cells #[] 279 (0, 0)) (List.mem_of_getElem? (i := 0) kr)
   by_cases hn : n = 0
   · subst hn
     have hy : ys = [] := List.eq_nil_of_length_eq_zero (by simp [hl])
     subst hy
     refine SX.given A (SX.run_appendNone (P := Tryz.prog) (t := 31) (tx := 31) (ty := 31) (i := Tryz.t279) Tryz.underlying31 kr (some ⟨SX.bb H 0, 0, none⟩) (sLen := 0) (sCap := 0) (Nat.le_refl 0) hsr) kr kr fun ac A => Xb [0] A H fun ac w A H => XD (XT (XW (Xr [0] (.slice (some ⟨SX.bb H 0, 0, none⟩) 0 0) A H ?_)))
     exact .inr ⟨SX.bb H 0, 0, [], rfl, SX.boxHas H 0 #[] 279 kr kr, hfr, by simp, by simp, Nat.le_refl _, by decide⟩
   have hg : (0 : Nat) < 0 + n := by omega
   have hbg : (0 + n) * Tryz.t279.bytes ≤ 140737488355328 := by rw [Nat.zero_add]; exact hbig
   obtain ⟨nb, k, zs, w1, hrun, hown, hk1, hk2, hz⟩ := SX.run_appendGrow (P := Tryz.prog) (t := 31) (tx := 31) (ty := 31) (e := 279) (i := Tryz.t279) (z := (Tryz.t279.zero).getD undef) Tryz.underlying31 kr kr kr (base := some ⟨SX.bb H 0, 0, none⟩) (sLen := 0) (sCap := 0) (olds := []) (by simp only [Builtin.firstCells, Nat.zero_mul] <;> rfl) hsr hg hbg kc
   have H := hown _ _ _ H
   rw [Nat.zero_add] at hrun hk1 hz
   have hz : zs.length = (k - n) * 45 := hz
   have hk1 : n ≤ k := hk1
   refine SX.given A hrun kr kr fun ac A => Xb [0] A H fun ac w A H => XD (XT (XW (Xr [0] (.slice (some ⟨nb, 0, none⟩) n k) A H ?_)))
   refine .inr ⟨nb, k, zs, rfl, H.has (nb, .cells (ys ++ zs).toArray 279 (0, 0)) (List.mem_of_getElem? (i := 1) kr), H.fresh (nb, .cells (ys ++ zs).toArray 279 (0, 0)) (List.mem_of_getElem? (i := 1) kr), ?_, hl, hk1, hk2⟩
   rw [List.length_append, hl, hz]; omega
theorem cloneP (ys : List Value) (s : SX.Sl) (w0 : World) {no : List Nat} (hs : SX.SlAt w0 no s 3 ys) (h1 : ∀ u ∈ ys, u.oneCell' = true) (hbig : s.n * 24 ≤ 140737488355328) :
 SX.Rets Tryz.prog 57 #[s.v] w0 (fun v w => SX.Fresh w0.heap.size w v 80 3 s.n ys) := by
 have hsrc := fun w (h : SX.SlAt w [] s 3 ys) => SX.SlAt.src (P := Tryz.prog) h (tx := 42) Tryz.underlying42 h1
 have hs2 := hs.any
 rcases hs with ⟨rfl, rfl⟩ | ⟨b, off, cs, E, fr, ha, hb, hbn, hl, hlc, hc⟩
 · refine SX.enter (args := [.slice none 0 0]) 8 Tryz.func57 rfl kr fun ac A H => ?_
   refine XS (XR (Xb [0] A H fun ac w A H => XD (XT (XS (XS (XR (Xb [0, 0] A H fun ac w A H => XD (XT (Xt A (XS (XR (Xb [0] A H fun ac w A H => XD (XT (XW (XU (Xr [0] ((.slice none 0 0)) A H ?_))))))))))))))))
   exact .inl ⟨rfl, rfl, rfl⟩
 · obtain ⟨a, n, c⟩ := s
   simp only at ha hl hlc hbig; subst ha
   refine SX.enter (args := [.slice (some ⟨b, off, none⟩) n c]) 8 Tryz.func57 rfl kr fun ac A H => ?_
   have H := H.known (SX.slF ⟨some ⟨b, off, none⟩, n, c⟩ 3 ys) hs2
   refine XS (XR (Xb [0] A H fun ac w A H => XD (XT (XS (XS (XR (Xb [0, 0] A H fun ac w A H => XD (XT (Xf A (XK (XT (XS (XR (Xb [0, 0] A H fun ac w A H => ?_))))))))))))))
   have hsw := (H.fact' 0 (SX.slF ⟨some ⟨b, off, none⟩, n, c⟩ 3 ys) kr)
   have hsr := hsrc w (SX.SlAt.any hsw)
   have hfr := H.fresh (SX.bb H 0, .cells #[] 80 (0, 0)) (List.mem_of_getElem? (i := 0) kr)
   by_cases hn : n = 0
   · subst hn
     have hy : ys = [] := List.eq_nil_of_length_eq_zero (by simp [hl])
     subst hy
     refine SX.given A (SX.run_appendNone (P := Tryz.prog) (t := 42) (tx := 42) (ty := 42) (i := Tryz.t80) Tryz.underlying42 kr (some ⟨SX.bb H 0, 0, none⟩) (sLen := 0) (sCap := 0) (Nat.le_refl 0) hsr) kr kr fun ac A => Xb [0] A H fun ac w A H => XD (XT (XW (Xr [0] (.slice (some ⟨SX.bb H 0, 0, none⟩) 0 0) A H ?_)))
     exact .inr ⟨SX.bb H 0, 0, [], rfl, SX.boxHas H 0 #[] 80 kr kr, hfr, by simp, by simp, Nat.le_refl _, by decide⟩
   have hg : (0 : Nat) < 0 + n := by omega
   have hbg : (0 + n) * Tryz.t80.bytes ≤ 140737488355328 := by rw [Nat.zero_add]; exact hbig
   obtain ⟨nb, k, zs, w1, hrun, hown, hk1, hk2, hz⟩ := SX.run_appendGrow (P := Tryz.prog) (t := 42) (tx := 42) (ty := 42) (e := 80) (i := Tryz.t80) (z := (Tryz.t80.zero).getD undef) Tryz.underlying42 kr kr kr (base := some ⟨SX.bb H 0, 0, none⟩) (sLen := 0) (sCap := 0) (olds := []) (by simp only [Builtin.firstCells, Nat.zero_mul] <;> rfl) hsr hg hbg kc
   have H := hown _ _ _ H
   rw [Nat.zero_add] at hrun hk1 hz
   have hz : zs.length = (k - n) * 3 := hz
   have hk1 : n ≤ k := hk1
   refine SX.given A hrun kr kr fun ac A => Xb [0] A H fun ac w A H => XD (XT (XW (Xr [0] (.slice (some ⟨nb, 0, none⟩) n k) A H ?_)))
   refine .inr ⟨nb, k, zs, rfl, H.has (nb, .cells (ys ++ zs).toArray 80 (0, 0)) (List.mem_of_getElem? (i := 1) kr), H.fresh (nb, .cells (ys ++ zs).toArray 80 (0, 0)) (List.mem_of_getElem? (i := 1) kr), ?_, hl, hk1, hk2⟩
   rw [List.length_append, hl, hz]; omega
theorem delete_calls {w0 : World} {bs : SX.Boxes} {ro : SX.Rd} (i n c b : Nat) (xs ys : List Value) (w : World) (H : SX.Own w0 w ((b, .cells xs.toArray 200 (0, 0)) :: bs) ro) (hi : i < n) (hc : xs.length = c * 2) (hl : ys.length = n * 2) (hx : xs.take (n * 2) = ys) (h1 : ∀ u ∈ ys, u.oneCell' = true) (hnc : n ≤ c) (hn : n ≤ 137438953472) (hcm : c ≤ 9223372036854775807) :
 Calls Tryz.prog 193 #[.slice (some ⟨b, 0, none⟩) n c, .int .i64 ((i : Nat) : Int), .int .i64 ((i + 1 : Nat) : Int)] w (fun e w' => ∃ v, e = .returned v ∧ ∃ xs' : List Value, v = .slice (some ⟨b, 0, none⟩) (n - 1) c ∧ xs'.length = c * 2 ∧ xs'.take ((n - 1) * 2) = ys.take (i * 2) ++ ys.drop ((i + 1) * 2) ∧ SX.Own w0 w' ((b, .cells xs'.toArray 200 (0, 0)) :: bs) ro) := by
 refine SX.enterA (args := [.slice (some ⟨b, 0, none⟩) n c, .int .i64 ((i : Nat) : Int), .int .i64 ((i + 1 : Nat) : Int)]) 33 Tryz.func193 rfl kr fun ac A => XS (XR (Xb [0] A H fun ac w A H => XD (XT (XS (XR (Xb [0, 0, 0, 0, 0] A H fun ac w A H => SX.given A (SX.run_sub3 (P := Tryz.prog) (w := w) (k := .i64) (k' := .i64) (k'' := .i64) (⟨some ⟨b, 0, none⟩, n, c⟩ : SX.Sl) (T := 28) (E := 200) (sz := 2) Tryz.underlying28 kr i (i + 1) n (by first | omega | (simp only; omega)) (by first | omega | (simp only; omega)) (by first | omega | (simp only; omega))) kr kr fun ac A => XD (XT (XS (XS (XR (Xb [0, 0, 0] A H fun ac w A H => ?_)))))))))))
 have A := A.re 16 (.bool (((i : Nat) : Int) == (((i + 1) : Nat) : Int))) (.bool false) kr (by congr 1; rw [Bool.eq_iff_iff]; simp; omega)
 refine XD (XT (Xf A (XK (XT (XS (XR (Xb [0, 0, 0] A H fun ac w A H => XD (XT (XS (SX.drawn 8 [] kr A H fun w H => SX.takes [] [(0, none), (1, none)] A H kr kd kr kr kr (Or.inl kr) fun ac A => SX.takeG 2 [] A H kr kd (fun w HK => SX.run_subH (P := Tryz.prog) (w := w) (k' := .i64) (⟨some ⟨b, 0, none⟩, n, c⟩ : SX.Sl) (T := 28) (E := 200) (sz := 2) Tryz.underlying28 kr i (by first | omega | (simp only; omega))) kr kr kr kr kr fun ac A => ?_))))))))))
 have A := A.re 22 ((SX.Sl.sub (⟨some ⟨b, 0, none⟩, n, c⟩ : SX.Sl) 2 0 i).v) (.slice (some ⟨b, 0, none⟩) i c) kr (by rw [SX.sub_head])
 refine SX.takes [] [(3, none), (4, none)] A H kr kd kr kr kr (Or.inl kr) fun ac A => SX.takeG 5 [] A H kr kd (fun w HK => SX.run_subL (P := Tryz.prog) (w := w) (k' := .i64) (⟨some ⟨b, 0, none⟩, n, c⟩ : SX.Sl) (T := 28) (E := 200) (sz := 2) Tryz.underlying28 kr (i + 1) (by first | omega | (simp only; omega))) kr kr kr kr kr fun ac A => ?_
 have hb := H.has (b, .cells xs.toArray 200 (0, 0)) (List.mem_of_getElem? (i := 0) kr)
 have hsl := (SX.slAt_own hb hl hnc hx).sub (i + 1) n ko (Nat.le_refl _)
 have hnl : ((ys.drop ((i + 1) * 2)).take ((n - (i + 1)) * 2)).length = (n - (i + 1)) * 2 := by rw [List.length_take, List.length_drop, hl]; omega
 have hsr := SX.SlAt.src (P := Tryz.prog) hsl (tx := 28) Tryz.underlying28 (fun u hu => h1 u (List.mem_of_mem_drop (List.mem_of_mem_take hu)))
 have hrun := SX.run_appendRoom (P := Tryz.prog) (t := 28) (tx := 28) (ty := 28) (e := 200) (i := Tryz.t200) Tryz.underlying28 kr (b := b) (off := 0) (sLen := i) (sCap := c) hsr (by show i + (n - (i + 1)) ≤ c; omega) hb (by rw [hnl, hc]; show 0 + i * 2 + _ ≤ _; omega)
 generalize hn2 : (ys.drop ((i + 1) * 2)).take ((n - (i + 1)) * 2) = news at hrun hnl
 have hn2' : news = ys.drop ((i + 1) * 2) := by rw [← hn2]; exact List.take_of_length_le (by rw [List.length_drop, hl]; omega)
 have e1 : i + (n - (i + 1)) = n - 1 := by omega
 have hrun := hrun.trans (by show Result.ok (Next.value (.slice _ (i + (n - (i + 1))) c)) (w.setRow b (SX.over xs (0 + i * 2) news).toArray) = .ok (.value (.slice (some ⟨b, 0, none⟩) (n - 1) c)) (w.setRow b (SX.over xs (i * 2) news).toArray); rw [e1, Nat.zero_add])
 have H := H.setRow (j := 0) (B := b) (cs := xs.toArray) (E := 200) kr (SX.over xs (i * 2) news).toArray
 have hol := SX.over_length (xs := xs) (o := i * 2) (vs := news) (by rw [hnl, hc]; omega)
 have hog := SX.over_get (xs := xs) (o := i * 2) (vs := news) (by rw [hnl, hc]; omega)
 generalize SX.over xs (i * 2) news = x2 at hrun H hol hog
 refine SX.actG 6 [] A hrun H kr kr kr kr (Or.inl kr) fun ac A => ?_
 generalize World.setRow _ b x2.toArray = w at H ⊢
 refine SX.takes [] [(7, none)] A H kr kd kr kr kr (Or.inl kr) fun ac A => ?_
 refine SX.doneD kr ?_ _
 refine XT (XS (XR (Xb [0, 0, 0, 0] A H fun ac w A H => SX.given A (SX.run_sub (P := Tryz.prog) (w := w) (k := .i64) (k' := .i64) (⟨some ⟨b, 0, none⟩, n - 1, c⟩ : SX.Sl) (T := 28) (E := 200) (sz := 2) Tryz.underlying28 kr (n - 1) n ko (by first | omega | (simp only; omega))) kr kr fun ac A => ?_)))
 have A := A.re 31 ((SX.Sl.sub (⟨some ⟨b, 0, none⟩, n - 1, c⟩ : SX.Sl) 2 (n - 1) n).v) (.slice (some ⟨b, (n - 1) * 2, none⟩) (n - (n - 1)) (c - (n - 1))) kr (by rw [SX.sub_at (c := c) (l := (n - 1)) ko])
 have hb := H.has (b, .cells x2.toArray 200 (0, 0)) (List.mem_of_getElem? (i := 0) kr)
 have hz1 : (Builtin.zeroCells ((Tryz.t200.zero).getD undef).cells 1).toList = [.int .u64 0, .int .u64 0] := by kernel_rfl
 have hrun := SX.run_clearN (P := Tryz.prog) (t := 28) (ty := 0) (elem := 200) (i := Tryz.t200) (z := (Tryz.t200.zero).getD undef) Tryz.underlying28 kr kr (b := b) (o := (n - 1) * 2) (n := n - (n - 1)) (c := c - (n - 1)) ko (by rw [show n - (n - 1) = 1 by omega, hz1]; decide) hb (by rw [SX.zeroCells_size, hol, hc, show n - (n - 1) = 1 by omega]; show _ + 1 * 2 ≤ _; omega)
 rw [show n - (n - 1) = 1 by omega] at hrun A
 have H := H.setRow (j := 0) (B := b) (cs := x2.toArray) (E := 200) kr (SX.over x2 ((n - 1) * 2) (Builtin.zeroCells ((Tryz.t200.zero).getD undef).cells 1).toList).toArray
 have hzl : (Builtin.zeroCells ((Tryz.t200.zero).getD undef).cells 1).toList.length = 2 := by rw [hz1]; rfl
 have hol2 := SX.over_length (xs := x2) (o := (n - 1) * 2) (vs := (Builtin.zeroCells ((Tryz.t200.zero).getD undef).cells 1).toList) (by rw [hzl, hol, hc]; omega)
 have hog2 := SX.over_get (xs := x2) (o := (n - 1) * 2) (vs := (Builtin.zeroCells ((Tryz.t200.zero).getD undef).cells 1).toList) (by rw [hzl, hol, hc]; omega)
 generalize SX.over x2 ((n - 1) * 2) _ = x3 at hrun H hol2 hog2
 refine SX.given A hrun kr kr fun ac A => ?_
 generalize World.setRow _ b x3.toArray = w at H ⊢
 refine XD (XT (XS (XR (Xb [0, 0] A H fun ac w A H => XD (XT (XW ?_))))))
 refine SX.retW [0] (.slice (some ⟨b, 0, none⟩) (n - 1) c) A H kr kr kr ⟨_, rfl, x3, rfl, by rw [hol2, hol, hc], ?_, H.as _ kr⟩
 apply List.ext_getElem?
 intro k
 by_cases hk : k < (n - 1) * 2
 · rw [List.getElem?_take_of_lt hk, hog2, if_pos hk, hog]
   by_cases hk2 : k < i * 2
   · rw [if_pos hk2, List.getElem?_append_left (by rw [List.length_take, hl]; omega), List.getElem?_take_of_lt hk2, ← hx, List.getElem?_take_of_lt ko]
   · rw [if_neg hk2, if_pos (by rw [hnl]; omega), hn2', List.getElem?_append_right (by rw [List.length_take, hl]; omega), List.length_take, hl, Nat.min_eq_left ko]
 · rw [List.getElem?_eq_none (by rw [List.length_take]; omega), List.getElem?_eq_none (by rw [List.length_append, List.length_take, List.length_drop, hl]; omega)]
end Go.Proofs.YtfkmcdkncmapmaaGreatDoor
