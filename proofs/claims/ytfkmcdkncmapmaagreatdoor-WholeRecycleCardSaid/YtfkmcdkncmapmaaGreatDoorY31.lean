/- All frames below a table: a range over a function, whose body lengthens a slice. -/
import Derived.Test.YtfkmcdkncmapmaaGreatDoorY02
import Derived.Test.YtfkmcdkncmapmaaGreatDoorY20
import Derived.Test.YtfkmcdkncmapmaaGreatDoorY08
import Derived.Test.YtfkmcdkncmapmaaGreatDoorY30
set_option linter.unusedVariables false
set_option linter.unusedSimpArgs false
set_option maxRecDepth 100000
set_option maxHeartbeats 2000000
namespace Go.Proofs.YtfkmcdkncmapmaaGreatDoor
open Go Go.RowKit
namespace D
theorem nat1s_len : ∀ l : List Nat, (l.flatMap nat1).length = l.length
 | [] => rfl
 | x :: l => by rw [List.flatMap_cons, List.length_append, nat1s_len l, List.length_cons]; show 1 + _ = _; omega
theorem nat1_one (l : List Nat) : ∀ u ∈ l.flatMap nat1, u.oneCell' = true := fun u hu => by
 obtain ⟨x, _, hx⟩ := List.mem_flatMap.1 hu
 simp only [nat1, List.mem_singleton] at hx
 subst hx
 rfl
def rowN (fr : Nat → List Nat) (m : Mem) (l top i : Nat) : List Nat := if (atN m top i).links (l : Int) then fr (atN m top i).ppn else []
def framesN (m : Mem) : Nat → Nat → List Nat
 | 0, top => [top]
 | l + 1, top => top :: ((List.range 512).filter (presN m top)).flatMap (rowN (framesN m l) m (l + 1) top)
theorem links_zero (p : Pte) : p.links 0 = false := by
 cases h : p.link with
 | false => simp [Pte.links, h]
 | true => simp [Pte.links, Pte.bad, h]
theorem framesN_eq (m : Mem) (l top : Nat) : framesN m l top = top :: ((List.range 512).filter (presN m top)).flatMap (rowN (framesN m (l - 1)) m l top) := by
 cases l with
 | zero =>
  have : ∀ L : List Nat, L.flatMap (rowN (framesN m 0) m 0 top) = [] := fun L => by
   induction L with
   | nil => rfl
   | cons x L ih => rw [List.flatMap_cons, ih]; simp [rowN, links_zero]
  show [top] = _
  rw [this]
 | succ l => rfl
def boundN : Nat → Nat
 | 0 => 1
 | l + 1 => 1 + 512 * boundN l
theorem flat_len {α : Type} (g : α → List Nat) (b : Nat) : ∀ L : List α, (∀ x ∈ L, (g x).length ≤ b) → (L.flatMap g).length ≤ L.length * b
 | [], _ => by simp
 | x :: L, h => by
  rw [List.flatMap_cons, List.length_append, List.length_cons, Nat.succ_mul]
  have := flat_len g b L fun y hy => h y (List.mem_cons_of_mem _ hy)
  have := h x List.mem_cons_self
  omega
theorem framesN_len (m : Mem) : ∀ l top, (framesN m l top).length ≤ boundN l
 | 0, _ => Nat.le_refl _
 | l + 1, top => by
  show (_ :: _ : List Nat).length ≤ 1 + 512 * boundN l
  rw [List.length_cons]
  have h := flat_len (rowN (framesN m l) m (l + 1) top) (boundN l) ((List.range 512).filter (presN m top)) fun x _ => by
   unfold rowN
   split
   · exact framesN_len m l _
   · simp
  have h2 := List.length_filter_le (presN m top) (List.range 512)
  rw [List.length_range] at h2
  have := Nat.mul_le_mul_right (boundN l) h2
  omega
end D

theorem frames_calls : ∀ (l : Nat) (m : D.Mem) (s1 : SX.Sl) (top : Nat) {no : List Nat} (w0 : World) (hno : ∀ b ∈ no, b < w0.heap.size) (hL : Ld w0) (hl : l ≤ 2) (ht : top < 4503599627370495) (hs1 : (D.memF s1 m.f).P w0 no),
 SX.Rets Tryz.prog 55 #[D.Mem.enc m s1, .int .u64 (top : Int), .int .i64 ((l : Nat) : Int)] w0 (fun v w' => ∃ s : SX.Sl, v = .slice s.a s.n s.c ∧ (D.wsF s (D.framesN m l top)).P w' no) := by
 intro l
 induction l using Nat.strongRecOn with
 | _ l ih =>
 intro m s1 top no w0 hno hL hl ht hs1
 refine SX.enterM (args := [D.Mem.enc m s1, .int .u64 (top : Int), .int .i64 ((l : Nat) : Int)]) (no := no) hno 29 Tryz.func55 rfl kr fun ac A H => XS (XR (Xb [0, 0, 0] A H fun ac w A H => XD (XT (XS (XR (Xb [0, 0, 0, 3] A H fun ac w A H => XD (XT (XS (XS (XR (Xb [0, 0] A H fun ac w A H => SX.callW A (entries_calls m s1 top w) kr kr ?_)))))))))))
 rintro _ ac w' ⟨hB, bm, bf, rfl, hlo1, hlo2, hne, hbm, hbf⟩ A
 refine XD (XT ?_)
 obtain ⟨B3, B5, B7, A, M, h37, h57, hm7, hf7, hlo7⟩ : ∃ B3 B5 B7 : Nat, SX.Agrees 29 ac [(3, .pointer (some ⟨B3, 0, none⟩)), (5, .pointer (some ⟨B5, 0, none⟩)), (7, .pointer (some ⟨B7, 0, none⟩)), (14, .func (.func 159) #[] #[.pointer (some ⟨bm, 0, none⟩), .pointer (some ⟨bf, 0, none⟩)])] ∧
  SX.Mid w0 ([B3, B5, B7, bm, bf] ++ no) [(B3, .cells (D.Mem.cs m s1) 30 (0, 0)), (B5, .cells #[.int .i64 ((l : Nat) : Int)] 3 (0, 0)), (bm, .cells (D.Mem.cs m s1) 30 (0, 0)), (bf, .cells #[.int .u64 (top : Int)] 27 (0, 0))] B7 72 27 1 [.int .u64 (top : Int)] w' ∧ B3 ≠ B7 ∧ B5 ≠ B7 ∧ bm ≠ B7 ∧ bf ≠ B7 ∧ w0.heap.size ≤ B7 := by
  obtain ⟨b0, b1, b2, b3, g0, g1, g2, g3, hnd, f2, f3, A2⟩ : ∃ b0 b1 b2 b3 : Nat, w.heap[b0]? = some (.cells (D.Mem.cs m s1) 30 (0, 0)) ∧ w.heap[b1]? = some (.cells #[.int .i64 ((l : Nat) : Int)] 3 (0, 0)) ∧ w.heap[b2]? = some (.cells #[.int .u64 (top : Int)] 27 (0, 0)) ∧ w.heap[b3]? = some (.cells #[.slice (some ⟨b2, 0, none⟩) 1 1] 72 (0, 0)) ∧ [b0, b1, b2, b3].Nodup ∧ w0.heap.size ≤ b2 ∧ w0.heap.size ≤ b3 ∧
   SX.Agrees 29 ac [(3, .pointer (some ⟨b0, 0, none⟩)), (5, .pointer (some ⟨b1, 0, none⟩)), (7, .pointer (some ⟨b3, 0, none⟩)), (14, .func (.func 159) #[] #[.pointer (some ⟨bm, 0, none⟩), .pointer (some ⟨bf, 0, none⟩)])] :=
   ⟨SX.bb H 0, SX.bb H 1, SX.bb H 2, SX.bb H 3, SX.boxHas H 0 (D.Mem.cs m s1) 30 kr kr, SX.boxHas H 1 #[.int .i64 ((l : Nat) : Int)] 3 kr kr, SX.boxHas H 2 #[.int .u64 (top : Int)] 27 kr kr, SX.boxHas H 3 #[.slice (some ⟨SX.bb H 2, 0, none⟩) 1 1] 72 kr kr,
    (by kernel_rfl : _ = [SX.bb H 0, SX.bb H 1, SX.bb H 2, SX.bb H 3]) ▸ H.nodup, H.fresh (SX.bb H 2, .cells #[.int .u64 (top : Int)] 27 (0, 0)) (List.mem_of_getElem? (i := 2) kr), H.fresh (SX.bb H 3, .cells #[.slice (some ⟨SX.bb H 2, 0, none⟩) 1 1] 72 (0, 0)) (List.mem_of_getElem? (i := 3) kr), A.sub _ kr⟩
  have hbel := H.below.trans (hB.mono H.below.size)
  clear H A
  have k0 := (hB.block _ (SX.getElem?_lt g0)).trans g0
  have k1 := (hB.block _ (SX.getElem?_lt g1)).trans g1
  have k2 := (hB.block _ (SX.getElem?_lt g2)).trans g2
  have k3 := (hB.block _ (SX.getElem?_lt g3)).trans g3
  have l0 := SX.getElem?_lt g0
  have l1 := SX.getElem?_lt g1
  have l2 := SX.getElem?_lt g2
  have l3 := SX.getElem?_lt g3
  simp only [List.nodup_cons, List.mem_cons, List.not_mem_nil, or_false, not_or] at hnd
  obtain ⟨⟨n1, n2, n3⟩, ⟨n4, n5⟩, n6, _⟩ := hnd
  have hsz := hB.size
  refine ⟨b0, b1, b3, A2, ⟨hbel, fun p hp => ?_, ⟨⟨some ⟨b2, 0, none⟩, 1, 1⟩, k3, ?_⟩, fun b hb => ?_⟩, n3, n5, by omega, by omega, f3⟩
  · simp only [List.mem_cons, List.not_mem_nil, or_false] at hp
    rcases hp with rfl | rfl | rfl | rfl
    · exact ⟨_, _, _, rfl, k0, by simp⟩
    · exact ⟨_, _, _, rfl, k1, by simp⟩
    · exact ⟨_, _, _, rfl, hbm, by simp⟩
    · exact ⟨_, _, _, rfl, hbf, by simp⟩
  · refine .inr ⟨b2, [.int .u64 (top : Int)], rfl, k2, f2, ?_, rfl, Nat.le_refl _, rfl, rfl, (by show (1 : Nat) ≤ 9223372036854775807; omega)⟩
    simp only [List.mem_append, List.mem_cons, List.not_mem_nil, or_false, not_or]
    refine ⟨⟨fun e => n2 e.symm, fun e => n4 e.symm, n6, by omega, by omega⟩, fun h => ?_⟩
    have := hno _ h
    have f2' : w0.heap.size ≤ b2 := f2
    omega
  · simp only [List.mem_append, List.mem_cons, List.not_mem_nil, or_false] at hb
    rcases hb with (rfl | rfl | rfl | rfl | rfl) | hb
    · omega
    · omega
    · omega
    · exact SX.getElem?_lt hbm
    · exact SX.getElem?_lt hbf
    · have := hno _ hb
      have := hbel.size
      omega
 clear H
 refine XB ?_
 have hbm := M.boxes (bm, .cells (D.Mem.cs m s1) 30 (0, 0)) (by simp)
 have hbf := M.boxes (bf, .cells #[.int .u64 (top : Int)] 27 (0, 0)) (by simp)
 obtain ⟨_, _, _, _, hbm, _⟩ := hbm
 obtain ⟨_, _, _, _, hbf, _⟩ := hbf
 simp only at hbm hbf
 have hs0 : (D.memF s1 m.f).P w0 [] := (D.memF s1 m.f).st w0 w0 no [] (fun b o _ hb => ⟨by simp, hb⟩) hs1
 have hmem : ∀ (W : World) (b : Nat), Below w0.heap.size w0 W → w0.heap.size ≤ b → (D.memF s1 m.f).P W [b] := fun W b hb hlo => (D.memF s1 m.f).st w0 W [] [b] (fun k o _ hk => ⟨by have := SX.getElem?_lt hk; simp; omega, by rw [hb.block k (SX.getElem?_lt hk)]; exact hk⟩) hs0
 let row : List (D.EntIx m top) → List Nat := fun pre => top :: pre.flatMap (fun x => D.rowN (D.framesN m (l - 1)) m l top x.1)
 have hrowlen : ∀ pre : List (D.EntIx m top), pre.length < 513 → (row pre).length ≤ 262657 := fun pre hp => by
  have h1 : ∀ x ∈ pre, (D.rowN (D.framesN m (l - 1)) m l top x.1).length ≤ 512 + 1 := fun x _ => by
   unfold D.rowN
   split
   · have h2 := D.framesN_len m (l - 1) (D.atN m top x.1).ppn
     have h3 : l - 1 = 0 ∨ l - 1 = 1 := by omega
     rcases h3 with h3 | h3 <;> rw [h3] at h2 ⊢
     · have : D.boundN 0 = 1 := rfl
       omega
     · have : D.boundN 1 = 513 := rfl
       omega
   · simp
  have h4 := D.flat_len (fun x : D.EntIx m top => D.rowN (D.framesN m (l - 1)) m l top x.1) 513 pre h1
  show (_ :: _ : List Nat).length ≤ _
  rw [List.length_cons]
  have : pre.length * 513 ≤ 512 * 513 := Nat.mul_le_mul_right _ ko
  omega
 have O9 : ∀ lb, SX.Free (Fence.wide.inRound lb) := SX.free_round
 refine (wpIn_wide (n := 9)).1 ?_
 refine (wpIn_rangeFunc_ownH (encs := D.entEnc m top) (gf := 159) (lb := #[.pointer (some ⟨bm, 0, none⟩), .pointer (some ⟨bf, 0, none⟩)]) rfl kc (A.eval (x := .tmp 14) kr) trivial (SX.enters Tryz.func159 kr rfl)
  (entries_stops m s1 top bm bf w0 w' hs0 M.below hbm hbf ht) SX.KeepK.trans (fun W lb o o' hlb ho hc hw => SX.keepK_b M.below.size (fun k hk => ?_) W lb o o' hlb ho hc hw) (Below.refl _ _) (fun x => rfl)
  (fun pre W => SX.Mid w0 ([B3, B5, B7, bm, bf] ++ no) [(B3, .cells (D.Mem.cs m s1) 30 (0, 0)), (B5, .cells #[.int .i64 ((l : Nat) : Int)] 3 (0, 0)), (bm, .cells (D.Mem.cs m s1) 30 (0, 0)), (bf, .cells #[.int .u64 (top : Int)] 27 (0, 0))] B7 72 27 1 ((row pre).flatMap D.nat1) W) (fun _ _ _ => False)
  ?_ (fun _ _ _ _ _ h _ _ => h) ?_
  (fun x a' W => ∃ B9, SX.Agrees 29 a' [(3, .pointer (some ⟨B3, 0, none⟩)), (5, .pointer (some ⟨B5, 0, none⟩)), (7, .pointer (some ⟨B7, 0, none⟩)), (9, .pointer (some ⟨B9, 0, none⟩))] ∧ W.heap[B9]? = some (.cells (D.Pte.cs (D.atN m top x.1)) 107 (0, 0))) ?_ ?_ ?_ ?_ (fun _ _ _ _ _ _ h _ => h.elim))
 · simp only [List.mem_cons, List.not_mem_nil, or_false] at hk
   rcases hk with rfl | rfl
   · exact SX.getElem?_lt hbm
   · exact SX.getElem?_lt hbf
 · exact fun pre W W' rw_ h hg hr => h.turn hg fun r e => ⟨Nat.le_trans M.below.size (hr r e).1, (hr r e).2⟩
 · exact M
 · rintro x a' _ W W' rw_ ⟨B9, hA, h9⟩ hg hr
   exact ⟨B9, hA, SX.cells_turn h9 hg fun r e => (hr r e).2⟩
 · intro lp pre x W K hI hK
   have O := O9 lp
   refine SX.regionI (SX.batch [0, 0] (SX.Agrees.round2 (p := 15) (q := 16) A kc kc (.int .i64 ((x.1 : Nat) : Int)) (D.Pte.enc (D.atN m top x.1))) (SX.Own.start W [] (by simp)) kr kr fun a2 W2 A2 H2 => XD ?_)
   exact hK a2 W2 (SX.keeps_below H2.below _) (SX.keepK_below H2.below (Nat.le_trans hI.below.size (Nat.le_refl _))) (hI.keep H2.below) ⟨SX.bb H2 0, A2.sub _ kr, SX.boxHas H2 0 (D.Pte.cs (D.atN m top x.1)) 107 kr kr⟩
 · rintro lp pre x a' W hlp _ hI ⟨B9, A, h9⟩ hlen
   have O := O9 lp
   have H : SX.Own W W [] ⟨[], [], []⟩ := SX.Own.start W [] (by simp)
   obtain ⟨_, _, _, _, h3, _⟩ := hI.boxes (B3, .cells (D.Mem.cs m s1) 30 (0, 0)) (by simp)
   obtain ⟨_, _, _, _, h5, _⟩ := hI.boxes (B5, .cells #[.int .i64 ((l : Nat) : Int)] 3 (0, 0)) (by simp)
   simp only at h3 h5
   have H := H.fb_old h9
   have H := H.fb_old h5
   refine wpIn_block (SX.seqI (wpIn_region (SX.batchI [1000, 1001] A H kr kr fun ac w2 A H => SX.callGI A H (links_calls (D.atN m top x.1) ((l : Nat) : Int) w2 ((hL.below hI.below).below H.below) ko) kr kr fun ac w3 A H => SX.ops_doneI kr (XT ?_))))
   have hrow : row (pre ++ [x]) = row pre ++ D.rowN (D.framesN m (l - 1)) m l top x.1 := by simp [row]
   have hI3 := hI.keep H.below
   refine Xs ((D.atN m top x.1).links ((l : Nat) : Int)) (fun h1 => ?_) fun h1 => ?_
   · have A := A.re 19 (.bool ((D.atN m top x.1).links ((l : Nat) : Int))) (.bool true) kr (by rw [h1])
     have hl0 : 1 ≤ l := by
      rcases Nat.eq_zero_or_pos l with h | h
      · rw [h] at h1; rw [show (((0 : Nat) : Int)) = 0 from rfl, D.links_zero] at h1; cases h1
      · exact h
     refine SX.condTI A kr kr ?_
     have hI4 : SX.Mid w0 ([B3, B5, B7, bm, bf] ++ no) _ B7 72 27 1 ((row pre).flatMap D.nat1) w3.drew := hI3.keep ((Below.refl _ w3).drew)
     obtain ⟨s, hsb, hso⟩ := hI4.row
     have h34 : w3.drew.heap[B3]? = some (.cells (D.Mem.cs m s1) 30 (0, 0)) := (H.below.block B3 (SX.getElem?_lt h3)).trans h3
     have h54 : w3.drew.heap[B5]? = some (.cells #[.int .i64 ((l : Nat) : Int)] 3 (0, 0)) := (H.below.block B5 (SX.getElem?_lt h5)).trans h5
     have h94 : w3.drew.heap[B9]? = some (.cells (D.Pte.cs (D.atN m top x.1)) 107 (0, 0)) := (H.below.block B9 (SX.getElem?_lt h9)).trans h9
     have h97 : B9 ≠ B7 := fun e => by rw [e, hsb] at h94; cases h94
     refine SX.drawnK 8 (SX.Keeps [(B3, .cells (D.Mem.cs m s1) 30 (0, 0)), (B5, .cells #[.int .i64 ((l : Nat) : Int)] 3 (0, 0)), (B9, .cells (D.Pte.cs (D.atN m top x.1)) 107 (0, 0))] [(B7, .cells #[s.v] 72 (0, 0))] [D.memF s1 m.f]) kr ?_
     have H5 := SX.own_cut hsb [D.memF s1 m.f] (fun F hF => by simp only [List.mem_singleton] at hF; subst hF; exact hmem _ _ hI4.below hlo7) [(B3, .cells (D.Mem.cs m s1) 30 (0, 0)), (B5, .cells #[.int .i64 ((l : Nat) : Int)] 3 (0, 0)), (B9, .cells (D.Pte.cs (D.atN m top x.1)) 107 (0, 0))] (fun p hp => by
      simp only [List.mem_cons, List.not_mem_nil, or_false] at hp
      rcases hp with rfl | rfl | rfl
      · exact ⟨h34, h37⟩
      · exact ⟨h54, h57⟩
      · exact ⟨h94, h97⟩)
     refine SX.takes [0] [(0, some 0), (1, some 1000), (2, none), (3, some 1002), (4, some 1001), (5, none)] A H5 kr kd kr kr kr (Or.inl kr) (k := 1) fun ac A => ?_
     have A := A.re 25 (.int .i64 (IntKind.i64.wrap (((l : Nat) : Int) - 1))) (.int .i64 (((l - 1 : Nat) : Int))) kr (SX.i_subN l 1 ko ko)
     refine SX.callD 6 [0] A H5 (ih (l - 1) ko m s1 (D.atN m top x.1).ppn w3.drew H5.nos_lt (hL.below hI4.below) ko (by have := D.atN_ppn m top x.1; omega) (H5.fact' 1 (D.memF s1 m.f) kr)) kr kr kr kr (Or.inl kr) (k := 1) ?_
     rintro _ ac w6 ⟨s6, rfl, hs6⟩ A H6
     have h6 := SX.cut_after hsb (H6.pick [0] [(B7, .cells #[s.v] 72 (0, 0))] kc kr) (H6.fact' 0 (SX.keepF w3.drew B7) kr)
     have hbel6 := SX.cut_below hsb h6
     have hlen6 := D.framesN_len m (l - 1) (D.atN m top x.1).ppn
     have hlen6' : (D.framesN m (l - 1) (D.atN m top x.1).ppn).length ≤ 513 := by
      rcases (by omega : l - 1 = 0 ∨ l - 1 = 1) with h | h <;> rw [h] at hlen6 ⊢
      · have : D.boundN 0 = 1 := rfl
        omega
      · have : D.boundN 1 = 513 := rfl
        omega
     have hn6 : s6.n = (D.framesN m (l - 1) (D.atN m top x.1).ppn).length := by
      have h := hs6.len
      rw [D.nat1s_len] at h
      omega
     obtain ⟨s7, w7, hrun, hfb7, hsame7, hbel7, hB7, hfin⟩ := hI4.push (P := Tryz.prog) (t := 72) (tx := 72) (ty := 72) (i := Tryz.t27) (z := (Tryz.t27.zero).getD undef) (x := s6.v) (k := s6.n) (news := (D.framesN m (l - 1) (D.atN m top x.1).ppn).flatMap D.nat1) hbel6 (by simp) (by
      intro p hp
      simp only [List.mem_cons, List.not_mem_nil, or_false] at hp
      rcases hp with rfl | rfl | rfl | rfl
      · exact h37
      · exact h57
      · exact hm7
      · exact hf7) hlo7 Tryz.underlying72 kr kr kr kc (hs6.src (e' := 27) Tryz.underlying72 (D.nat1_one _)) (by rw [D.nat1s_len, hn6]; exact (Nat.mul_one _).symm) (fun s' hs' => by
        have h := hs'.at_.len
        rw [D.nat1s_len] at h
        have := hrowlen pre ko
        have e : Tryz.t27.size = 1 := rfl
        rw [e] at h
        have e8 : Tryz.t27.bytes = 8 := rfl
        rw [e8]
        omega) hsb hso
     have h37' := (h6.2.1 B3 _ h37 h34)
     have h57' := (h6.2.1 B5 _ h57 h54)
     have h97' := (h6.2.1 B9 _ h97 h94)
     have h39 := hsame7 B9 _ (fun c hc e => by
      rcases hso with ⟨rfl, _⟩ | ⟨b', xs, ha, hb', _⟩
      · cases hc
      · rw [ha] at hc; cases hc
        have e : B9 = b' := e
        rw [← e, h94] at hb'; cases hb') h97'
     have hbel07 : Below w0.heap.size w0 w7 := (hI4.below.trans (hbel6.mono hI4.below.size)).trans hbel7
     have h3_7 := hfb7 (B3, .cells (D.Mem.cs m s1) 30 (0, 0)) (by simp)
     have h5_7 := hfb7 (B5, .cells #[.int .i64 ((l : Nat) : Int)] 3 (0, 0)) (by simp)
     refine SX.rawD 7 A hrun ⟨fun p hp => ?_, fun p hp => ?_, fun F hF => ?_⟩ kr kr kr kr fun ac A => ?_
     · simp only [List.mem_singleton] at hp; subst hp; exact hB7
     · simp only [List.mem_cons, List.not_mem_nil, or_false] at hp
       rcases hp with rfl | rfl | rfl
       · exact h3_7
       · exact h5_7
       · exact h39
     · simp only [List.mem_singleton] at hF; subst hF
       exact (D.memF s1 m.f).st w7 w7 [w0.heap.size] [] (fun b o _ hb => ⟨by simp, hb⟩) (hmem w7 _ hbel07 (Nat.le_refl _))
     have H8 := SX.own_cut hB7 [D.memF s1 m.f] (fun F hF => by simp only [List.mem_singleton] at hF; subst hF; exact hmem _ _ hbel07 hlo7) [(B3, .cells (D.Mem.cs m s1) 30 (0, 0)), (B5, .cells #[.int .i64 ((l : Nat) : Int)] 3 (0, 0)), (B9, .cells (D.Pte.cs (D.atN m top x.1)) 107 (0, 0))] (fun p hp => by
      simp only [List.mem_cons, List.not_mem_nil, or_false] at hp
      rcases hp with rfl | rfl | rfl
      · exact ⟨h3_7, h37⟩
      · exact ⟨h5_7, h57⟩
      · exact ⟨h39, h97⟩)
     refine SX.act 8 0 [0] A H8 kr kr kr (Or.inr kr) (k := 1) fun ac w8 A H8 => ?_
     refine SX.doneD kr ?_ _
     refine XN ?_
     have h8 := SX.cut_after hB7 (H8.pick [0] [(B7, .cells #[s7.v] 72 (0, 0))] kc kr) (H8.fact' 0 (SX.keepF w7 B7) kr)
     obtain ⟨hM8, hKF, hKK⟩ := hfin w8 h8.1 h8.2.1 h8.2.2
     have e : (row (pre ++ [x])).flatMap D.nat1 = (row pre).flatMap D.nat1 ++ (D.framesN m (l - 1) (D.atN m top x.1).ppn).flatMap D.nat1 := by rw [hrow, List.flatMap_append]; simp [D.rowN, h1]
     refine ⟨(SX.keeps_below (H.below.trans ((Below.refl _ w3).drew)) _).trans (hKF _), SX.KeepK.trans (SX.keepK_below (H.below.trans ((Below.refl _ w3).drew)) hI.below.size) (hKK [bm, bf] w0.heap.size (fun b hb => ?_) (Nat.le_refl _)), ?_⟩
     · simp only [List.mem_cons, List.not_mem_nil, or_false] at hb
       rcases hb with rfl | rfl
       · exact ⟨by simp, hm7⟩
       · exact ⟨by simp, hf7⟩
     · show SX.Mid _ _ _ _ _ _ _ ((row (pre ++ [x])).flatMap D.nat1) _
       rw [e]
       exact hM8
   · have A := A.re 19 (.bool ((D.atN m top x.1).links ((l : Nat) : Int))) (.bool false) kr (by rw [h1])
     refine SX.condFI A kr kr (wpIn_skip (XN ?_))
     have e : row (pre ++ [x]) = row pre := by rw [hrow]; simp [D.rowN, h1]
     refine ⟨SX.keeps_below H.below _, SX.keepK_below H.below hI.below.size, ?_⟩
     show SX.Mid _ _ _ _ _ _ _ ((row (pre ++ [x])).flatMap D.nat1) _
     rw [e]
     exact hI3
 · intro D_ xs W hD hxs hI hK
   have erow : row xs = D.framesN m l top := by
    rw [D.framesN_eq, ← hxs, List.flatMap_map]
   obtain ⟨s, hsb, hso⟩ := hI.row
   have ea : ({ ac with defers := { target := .collected D_, args := #[] } :: ac.defers } : Act) = SX.addD [{ target := .collected D_, args := #[] }] ac := by
    have h := A.defers
    cases ac
    simp only at h
    subst h
    rfl
   rw [ea]
   refine XN (XT (XS (XR (SX.ops_addD (by rintro ⟨_, _, h⟩; obtain ⟨_, hv, _⟩ := h; cases hv) _ _ _ ?_))))
   have H : SX.Own W W [] ⟨[], [], no⟩ := SX.Own.start W no (fun b hb => hI.lt b (by simp [hb]))
   have H := H.fb_old hsb
   refine SX.batch [1000, 0] A H kr kr fun ac w2 A H => XD (XT (XW ?_))
   have hK2 : w2.heap[D_]? = some (.deferred (some [])) := (H.below.block D_ (SX.getElem?_lt hK)).trans hK
   show LeavesInM Fence.wide 9 Tryz.prog Tryz.f55 _ _ (ac.defers ++ [{ target := .collected D_, args := #[] }]) .returning w2
   rw [A.defers, List.nil_append]
   unfold LeavesInM
   refine ⟨by simp, .inl ⟨D_, _, rfl, run_takeDeferred hK2, ?_⟩⟩
   unfold LeavesInM LeavesIn
   have hg : w2.grownBy (w2.putObj D_ (.deferred none)) (some D_) := grownBy_putObj' w2 D_ _
   have hr : ∀ r, some D_ = some r → ∃ o : Obj, w2.heap[r]? = some o ∧ o.isCells = false := fun r e => by cases e; exact ⟨_, hK2, rfl⟩
   have hI2 := (hI.keep H.below).turn hg fun r e => ⟨by cases e; exact Nat.le_trans M.below.size hD, hr r e⟩
   have hso2 : SX.OwnRow w2 _ _ s 27 1 _ := hso.keep fun b o _ hb => (H.below.block b (SX.getElem?_lt hb)).trans hb
   have hso3 := hso2.turn hg hr
   have H9 : SX.Own (w2.putObj D_ (.deferred none)) (w2.putObj D_ (.deferred none)) [] ⟨[], [], []⟩ := SX.Own.start _ [] (by simp)
   have hres := SX.ret_run (P := Tryz.prog) (fn := Tryz.f55) [0] A H9 kr kr
   refine ⟨_, hres, _, rfl, hI2.below, s, kr, ?_⟩
   rw [← erow]
   exact hso3.at_.keep fun b o hb ho => ⟨fun h => hb (List.mem_append_right _ h), ho⟩
end Go.Proofs.YtfkmcdkncmapmaaGreatDoor
