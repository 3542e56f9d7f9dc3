/- Walks of functions, written by the session's own program wip/sx/sxgen.py; Lean checks them. -/
import Derived.Test.YtfkmcdkncmapmaaGreatDoorY02
import Derived.Test.YtfkmcdkncmapmaaGreatDoorY20
import Derived.Test.YtfkmcdkncmapmaaGreatDoorProg
import Derived.Test.YtfkmcdkncmapmaaGreatDoorY04
set_option linter.unusedVariables false
set_option linter.unusedSimpArgs false
set_option maxRecDepth 100000
set_option maxHeartbeats 1000000
namespace Go.Proofs.YtfkmcdkncmapmaaGreatDoor
open Go Go.RowKit
namespace D
def Pte.zero : Pte := ⟨false, false, false, false, false, false, false, false, 0, 0, 0⟩
def Leaf.zero : Leaf := ⟨0, 0, Pte.zero⟩
def Fault.zero : Fault := ⟨false, 0, 0⟩
structure Found where
 leaf : Leaf
 fault : Fault
def Found.no (s k : Int) (addr : Nat) : Found := ⟨Leaf.zero, ⟨true, causeN s k, addr⟩⟩
def wordP (m : Mem) (t addr l : Nat) : Pte := Pte.get (loadM m (placeN t (indexN addr (l : Int))) 8)
def wordW (m : Mem) (t addr l : Nat) : Int := wrongN m (placeN t (indexN addr (l : Int))) 8
def Pte.withG (p : Pte) (g : Bool) : Pte := ⟨p.v, p.r, p.w, p.x, p.u, g, p.a, p.d, p.rsw, p.ppn, p.high⟩
def look (m : Mem) (addr : Nat) (kind : Int) : Nat → Nat → Bool → Found
 | 0, t, g => if wordW m t addr 0 ≠ 0 then Found.no 1 kind addr else if (wordP m t addr 0).bad 0 then Found.no 2 kind addr else ⟨⟨0, placeN t (indexN addr 0), (wordP m t addr 0).withG (g || (wordP m t addr 0).g)⟩, Fault.zero⟩
 | l + 1, t, g => if wordW m t addr (l + 1) ≠ 0 then Found.no 1 kind addr else if (wordP m t addr (l + 1)).bad ((l + 1 : Nat) : Int) then Found.no 2 kind addr
  else if (wordP m t addr (l + 1)).leaf then ⟨⟨((l + 1 : Nat) : Int), placeN t (indexN addr ((l + 1 : Nat) : Int)), (wordP m t addr (l + 1)).withG (g || (wordP m t addr (l + 1)).g)⟩, Fault.zero⟩
  else look m addr kind l (wordP m t addr (l + 1)).ppn (g || (wordP m t addr (l + 1)).g)
def lookN (m : Mem) (root addr : Nat) (kind : Int) : Found := if isN addr = true then look m addr kind 2 root false else Found.no 2 kind addr
theorem bad_leaf {p : Pte} (h : p.bad 0 = false) : p.leaf = true := by
 obtain ⟨v, r, w, x, u, g, a, d, rsw, ppn, high⟩ := p
 cases v <;> cases r <;> cases x <;> simp_all [Pte.bad, Pte.link, Pte.leaf]
theorem look_range {m : Mem} {addr : Nat} {kind : Int} {l t : Nat} {g : Bool} (h : wordW m t addr l ≠ 0) : look m addr kind l t g = Found.no 1 kind addr := by
 cases l <;> rw [look, if_pos h]
theorem look_bad {m : Mem} {addr : Nat} {kind : Int} {l t : Nat} {g : Bool} (h : wordW m t addr l = 0) (h2 : (wordP m t addr l).bad (l : Int) = true) : look m addr kind l t g = Found.no 2 kind addr := by
 cases l with
 | zero => rw [look, if_neg (by simp [h])]; exact if_pos h2
 | succ l => rw [look, if_neg (by simp [h]), if_pos h2]
theorem look_leaf {m : Mem} {addr : Nat} {kind : Int} {l t : Nat} {g : Bool} (h : wordW m t addr l = 0) (h2 : (wordP m t addr l).bad (l : Int) = false) (h3 : (wordP m t addr l).leaf = true) : look m addr kind l t g = ⟨⟨(l : Int), placeN t (indexN addr (l : Int)), (wordP m t addr l).withG (g || (wordP m t addr l).g)⟩, Fault.zero⟩ := by
 cases l with
 | zero => rw [look, if_neg (by simp [h]), if_neg (by simpa using h2)]; rfl
 | succ l => rw [look, if_neg (by simp [h]), if_neg (by rw [h2]; decide), if_pos h3]
theorem look_down {m : Mem} {addr : Nat} {kind : Int} {l t : Nat} {g : Bool} (h : wordW m t addr l = 0) (h2 : (wordP m t addr l).bad (l : Int) = false) (h3 : (wordP m t addr l).leaf = false) : 1 ≤ l ∧ look m addr kind l t g = look m addr kind (l - 1) (wordP m t addr l).ppn (g || (wordP m t addr l).g) := by
 cases l with
 | zero => rw [bad_leaf h2] at h3; cases h3
 | succ l => exact ⟨by omega, by rw [look, if_neg (by simp [h]), if_neg (by rw [h2]; decide), if_neg (by rw [h3]; decide)]; rfl⟩
theorem getN_le (x lo n : Nat) : Bits.getN x lo n ≤ x := Nat.le_trans Nat.and_le_left (Nat.div_le_self _ _)
theorem loadM_lt {m : Mem} {l : List Cell} (h : MemOk l m.f) (k : Nat) (size : Int) : loadM m k size < 18446744073709551616 := by
 unfold loadM
 split
 · exact Nat.lt_of_le_of_lt (getN_le _ _ _) (wordN_lt h k)
 · decide
end D
theorem Look_calls (m : D.Mem) (root : Nat) (addr : Nat) (kind : Int)  {no : List Nat} (s1 : SX.Sl) (w0 : World) (hno : ∀ b ∈ no, b < w0.heap.size) (hs1 : (D.memF s1 m.f).P w0 no) (hL : Ld w0) (hr : root < 4503599627370495) (haddr : addr < 18446744073709551616) (hk : kind = 0 ∨ kind = 1 ∨ kind = 2) : SX.Gives Tryz.prog 183 #[(D.Mem.enc m s1), .int .u64 (((root : Nat) : Int)), .int .u64 (((addr : Nat) : Int)), .int .i64 kind] w0 ((.tuple #[(D.Leaf.enc ((D.lookN m root addr kind).leaf)), (D.Fault.enc ((D.lookN m root addr kind).fault))])) := by
 refine SX.enterN (args := [(D.Mem.enc m s1), .int .u64 (((root : Nat) : Int)), .int .u64 (((addr : Nat) : Int)), .int .i64 kind]) (hno := hno) 73 Tryz.func183 rfl kr fun ac A H => ?_
 have H := H.known (D.memF s1 m.f) hs1
 obtain ⟨ll, hll, hmo⟩ := hs1
 refine XS (XR (Xb [0, 0, 0] A H fun ac w A H => XD (XT (wp_scope_straight (XS (XS (XR (Xb [0] A H fun ac w A H => Xc A H (Is_calls addr w) fun ac w A H => Xb [0] A H fun ac w A H => XD (XT ?_)))))))))
 refine Xs (isN addr) (fun h1 => ?_) fun h1 => ?_
 ·
  have A := A.re 20 (.bool (!(isN addr))) (.bool false) kr (by rw [h1]; rfl)
  refine Xf A (XK (XT (XS (XR (Xb [0] A H fun ac w A H => XD (XT (XS (XR (Xb [0] A H fun ac w A H => XD (XT (XS (XR (Xb [0, 0, 0] A H fun ac w A H => XD (XT (XS (wp_label (XT (XS (XB ?_)))))))))))))))))))
  refine SX.loopG (σ := Nat × Nat × Bool) (fun g ac w => match g with | (l, t, g) => ∃ B0 B1 B2 B3 : Nat, (l ≤ 2 ∧ t < 4503599627370495 ∧ D.look m addr kind 2 root false = D.look m addr kind l t g) ∧ SX.Agrees 73 ac [(1, .int .u64 (((root : Nat) : Int))), (2, .int .u64 (((addr : Nat) : Int))), (3, .int .i64 kind), (4, .pointer (some ⟨B0, 0, none⟩)), (8, .pointer (some ⟨B1, 0, none⟩)), (9, .pointer (some ⟨B2, 0, none⟩)), (10, .pointer (some ⟨B3, 0, none⟩)), (11, .bool g), (12, .int .i64 (((l : Nat) : Int))), (13, .int .u64 (((t : Nat) : Int)))] ∧ SX.Own w0 w [(B0, .cells (D.Mem.cs m s1) 30 (0, 0)), (B1, .cells (D.Leaf.cs (⟨0, 0, (⟨false, false, false, false, false, false, false, false, 0, 0, 0⟩ : D.Pte)⟩ : D.Leaf)) 263 (0, 0)), (B2, .cells #[.bool false, .int .i64 0, .int .u64 0] 58 (0, 0)), (B3, .cells (D.Leaf.cs (⟨0, 0, (⟨false, false, false, false, false, false, false, false, 0, 0, 0⟩ : D.Pte)⟩ : D.Leaf)) 263 (0, 0))] ⟨[(D.memF s1 m.f)], (SX.roOf H).fb, (SX.roOf H).no⟩) (fun g => match g with | (l, t, g) => l) (2, root, false) ?_ ?_
  · exact ⟨SX.bb H 0, SX.bb H 1, SX.bb H 2, SX.bb H 3, (⟨by omega, hr, rfl⟩), A.sub _ kr, (H.pick [0, 1, 2, 3] _ kc kr).ro_pick [0] _ kr⟩
  rintro ⟨l, t, g⟩ ac w ⟨B0, B1, B2, B3, hI, A, H⟩
  refine XB (XS (XR (Xb [0, 0, 0] A H fun ac w A H => Xc A H (slot_calls t addr ((l : Nat) : Int) w ko ko ko) fun ac w A H => Xb [0] A H fun ac w A H => XD (XT (XS (XR (Xb [0, 0] A H fun ac w A H => Xc A H (Load_calls m (placeN t (indexN addr ((l : Nat) : Int))) 8 s1 w H.nos_lt (H.fact' 0 (D.memF s1 m.f) kr) (by have hix := indexN_lt addr ((l : Nat) : Int); unfold placeN; omega)) fun ac w A H => Xb [0, 0, 0, 0, 0] A H fun ac w A H => XD (XT (XS (XS (XR (Xb [0, 0] A H fun ac w A H => XD (XT ?_)))))))))))))
  refine Xs ((D.wrongN m (placeN t (indexN addr ((l : Nat) : Int))) 8) != 0) (fun h2 => ?_) fun h2 => ?_
  ·
   have A := A.rb 37 h2
   have h2p : D.wrongN m (placeN t (indexN addr ((l : Nat) : Int))) 8 ≠ 0 := kp h2
   refine Xt A (XS (XR (Xb [0, 0, 0] A H fun ac w A H => Xc A H (Access_calls kind addr w (hL.below H.below) (hk)) fun ac w A H => Xb [1, 2] A H fun ac w A H => XD (XT (XW (XU (XQ (XU (XQ (XU (SX.scope_r (Xr [1, 2] ((.tuple #[(D.Leaf.enc (⟨0, 0, (⟨false, false, false, false, false, false, false, false, 0, 0, 0⟩ : D.Pte)⟩ : D.Leaf)), (D.Fault.enc (⟨true, causeN 1 kind, addr⟩ : D.Fault))])) A H ?_))))))))))))
   have hN : isN addr = true := h1
   have hl0 : D.lookN m root addr kind = D.look m addr kind 2 root false := by rw [D.lookN, if_pos hN]
   have hf := D.look_range (kind := kind) (g := g) (show D.wordW m t addr l ≠ 0 by show D.wrongN _ _ _ ≠ 0; omega)
   rw [hl0, hI.2.2, hf]; rfl
  ·
   have A := A.rb 37 h2
   have h2p : ¬ (D.wrongN m (placeN t (indexN addr ((l : Nat) : Int))) 8 ≠ 0) := kp h2
   refine Xf A (XK (XT (XS (XR (Xb [0] A H fun ac w A H => Xc A H (PGet_calls (D.loadM m (placeN t (indexN addr ((l : Nat) : Int))) 8) w (D.loadM_lt hmo _ _)) fun ac w A H => Xb [0, 4] A H fun ac w A H => XD (XT (XS (XR (Xb [0, 0] A H fun ac w A H => ?_)))))))))
   refine Xs (g) (fun h3 => ?_) fun h3 => ?_
   ·
    have A := A.rb 45 h3
    refine Xb [0, 0, 0, 0] A H fun ac w A H => XD (XT (XS (XB (XS (XR (Xb [4, 0] A H fun ac w A H => Xc A H (Bad_calls (D.Pte.get (D.loadM m (placeN t (indexN addr ((l : Nat) : Int))) 8)) ((l : Nat) : Int) w (hL.below H.below) ko) fun ac w A H => Xb [0] A H fun ac w A H => XD (XT ?_)))))))
    refine Xs ((D.Pte.get (D.loadM m (placeN t (indexN addr ((l : Nat) : Int))) 8)).bad ((l : Nat) : Int)) (fun h4 => ?_) fun h4 => ?_
    ·
     have A := A.rb 49 h4
     refine Xt A (XS (XR (Xb [0, 0, 0] A H fun ac w A H => Xc A H (Page_calls kind addr w (hL.below H.below) (hk)) fun ac w A H => Xb [1, 2] A H fun ac w A H => XD (XT (XW (XQ (XU (XQ (XU (XQ (XU (SX.scope_r (Xr [1, 2] ((.tuple #[(D.Leaf.enc (⟨0, 0, (⟨false, false, false, false, false, false, false, false, 0, 0, 0⟩ : D.Pte)⟩ : D.Leaf)), (D.Fault.enc (⟨true, causeN 2 kind, addr⟩ : D.Fault))])) A H ?_)))))))))))))
     have hN : isN addr = true := h1
     have hl0 : D.lookN m root addr kind = D.look m addr kind 2 root false := by rw [D.lookN, if_pos hN]
     have hw0 : D.wordW m t addr l = 0 := by show D.wrongN _ _ _ = 0; omega
     have hf := D.look_bad (kind := kind) (g := g) hw0 (show (D.wordP m t addr l).bad _ = true from h4)
     rw [hl0, hI.2.2, hf]; rfl
    ·
     have A := A.rb 49 h4
     refine Xf A (XS (XR (Xb [4] A H fun ac w A H => Xc A H (Leaf_calls (D.Pte.get (D.loadM m (placeN t (indexN addr ((l : Nat) : Int))) 8)) w) fun ac w A H => Xb [0] A H fun ac w A H => XD (XT ?_))))
     refine Xs ((D.Pte.get (D.loadM m (placeN t (indexN addr ((l : Nat) : Int))) 8)).leaf) (fun h5 => ?_) fun h5 => ?_
     ·
      have A := A.rb 57 h5
      refine Xt A (XS (XR (Xb [0, 0, 4, 0, 3] A H fun ac w A H => XD (XT (XI (SX.blk_x kc (XX (SX.blk_x kc (XX (XE (XT (XS (XR (Xb [0, 0, 0, 3] A H fun ac w A H => XD (XT (XS (XR (Xb [3, 0, 1, 2] A H fun ac w A H => XD (XT (XW (SX.scope_r (Xr [1, 2] ((.tuple #[(D.Leaf.enc (⟨((l : Nat) : Int), placeN t (indexN addr ((l : Nat) : Int)), (⟨(D.Pte.get (D.loadM m (placeN t (indexN addr ((l : Nat) : Int))) 8)).v, (D.Pte.get (D.loadM m (placeN t (indexN addr ((l : Nat) : Int))) 8)).r, (D.Pte.get (D.loadM m (placeN t (indexN addr ((l : Nat) : Int))) 8)).w, (D.Pte.get (D.loadM m (placeN t (indexN addr ((l : Nat) : Int))) 8)).x, (D.Pte.get (D.loadM m (placeN t (indexN addr ((l : Nat) : Int))) 8)).u, true, (D.Pte.get (D.loadM m (placeN t (indexN addr ((l : Nat) : Int))) 8)).a, (D.Pte.get (D.loadM m (placeN t (indexN addr ((l : Nat) : Int))) 8)).d, (D.Pte.get (D.loadM m (placeN t (indexN addr ((l : Nat) : Int))) 8)).rsw, (D.Pte.get (D.loadM m (placeN t (indexN addr ((l : Nat) : Int))) 8)).ppn, (D.Pte.get (D.loadM m (placeN t (indexN addr ((l : Nat) : Int))) 8)).high⟩ : D.Pte)⟩ : D.Leaf)), (D.Fault.enc (⟨false, 0, 0⟩ : D.Fault))])) A H ?_))))))))))))))))))))))
      have hN : isN addr = true := h1
      have hl0 : D.lookN m root addr kind = D.look m addr kind 2 root false := by rw [D.lookN, if_pos hN]
      have hw0 : D.wordW m t addr l = 0 := by show D.wrongN _ _ _ = 0; omega
      have hf := D.look_leaf (kind := kind) (g := g) hw0 (show (D.wordP m t addr l).bad _ = false from h4) (show (D.wordP m t addr l).leaf = true from h5)
      rw [h3] at hf
      rw [hl0, hI.2.2, h3, hf]; rfl
     ·
      have A := A.rb 57 h5
      refine Xf A (XK (XN (XT (SX.drawn 6 [4] kr A H fun w H => SX.takes [4] [(0, none), (1, none)] A H kr kd kr kr kr (Or.inl kr) fun ac A => ?_))))
      have A := A.re 65 (.int .i64 (IntKind.i64.wrap (((l : Nat) : Int) - 1))) (.int .i64 ((((l - 1) : Nat) : Int))) kr (SX.i_subN _ 1 (by have hld := D.look_down (kind := kind) (g := g) (show D.wordW m t addr l = 0 by show D.wrongN _ _ _ = 0; omega) (show (D.wordP m t addr l).bad _ = false by assumption) (show (D.wordP m t addr l).leaf = false by assumption); exact hld.1) ko)
      refine SX.takes [4] [(2, none), (3, some 0), (4, none), (5, none)] A H kr kd kr kr kr (Or.inl kr) fun ac A => ?_
      refine SX.doneD kr ?_ _
      refine XN (XT ?_)
      obtain ⟨hI1, hI2, hI3⟩ := hI
      have hld := D.look_down (kind := kind) (g := g) (show D.wordW m t addr l = 0 by show D.wrongN _ _ _ = 0; omega) (show (D.wordP m t addr l).bad _ = false from h4) (show (D.wordP m t addr l).leaf = false from h5)
      have hpl : (D.wordP m t addr l).ppn < 17592186044416 := getN_lt2 _ 10 44 kc
      rw [h3] at hld
      exact ⟨(l - 1, (D.wordP m t addr l).ppn, true), ⟨SX.bb H 0, SX.bb H 1, SX.bb H 2, SX.bb H 3, (⟨by omega, by omega, hI3.trans (by rw [h3]; exact hld.2)⟩), A.sub _ kr, (H.pick [0, 1, 2, 3] _ kc kr).ro_pick [0] _ kr⟩, by have := hld.1; show l - 1 < l; omega⟩
   ·
    have A := A.rb 45 h3
    refine Xb [0, 4, 0, 0] A H fun ac w A H => XD (XT (XS (XB (XS (XR (Xb [4, 0] A H fun ac w A H => Xc A H (Bad_calls (D.Pte.get (D.loadM m (placeN t (indexN addr ((l : Nat) : Int))) 8)) ((l : Nat) : Int) w (hL.below H.below) ko) fun ac w A H => Xb [0] A H fun ac w A H => XD (XT ?_)))))))
    refine Xs ((D.Pte.get (D.loadM m (placeN t (indexN addr ((l : Nat) : Int))) 8)).bad ((l : Nat) : Int)) (fun h6 => ?_) fun h6 => ?_
    ·
     have A := A.rb 49 h6
     refine Xt A (XS (XR (Xb [0, 0, 0] A H fun ac w A H => Xc A H (Page_calls kind addr w (hL.below H.below) (hk)) fun ac w A H => Xb [1, 2] A H fun ac w A H => XD (XT (XW (XQ (XU (XQ (XU (XQ (XU (SX.scope_r (Xr [1, 2] ((.tuple #[(D.Leaf.enc (⟨0, 0, (⟨false, false, false, false, false, false, false, false, 0, 0, 0⟩ : D.Pte)⟩ : D.Leaf)), (D.Fault.enc (⟨true, causeN 2 kind, addr⟩ : D.Fault))])) A H ?_)))))))))))))
     have hN : isN addr = true := h1
     have hl0 : D.lookN m root addr kind = D.look m addr kind 2 root false := by rw [D.lookN, if_pos hN]
     have hw0 : D.wordW m t addr l = 0 := by show D.wrongN _ _ _ = 0; omega
     have hf := D.look_bad (kind := kind) (g := g) hw0 (show (D.wordP m t addr l).bad _ = true from h6)
     rw [hl0, hI.2.2, hf]; rfl
    ·
     have A := A.rb 49 h6
     refine Xf A (XS (XR (Xb [4] A H fun ac w A H => Xc A H (Leaf_calls (D.Pte.get (D.loadM m (placeN t (indexN addr ((l : Nat) : Int))) 8)) w) fun ac w A H => Xb [0] A H fun ac w A H => XD (XT ?_))))
     refine Xs ((D.Pte.get (D.loadM m (placeN t (indexN addr ((l : Nat) : Int))) 8)).leaf) (fun h7 => ?_) fun h7 => ?_
     ·
      have A := A.rb 57 h7
      refine Xt A (XS (XR (Xb [0, 0, 4, 0, 3] A H fun ac w A H => XD (XT (XI (SX.blk_x kc (XX (SX.blk_x kc (XX (XE (XT (XS (XR (Xb [0, 0, 0, 3] A H fun ac w A H => XD (XT (XS (XR (Xb [3, 0, 1, 2] A H fun ac w A H => XD (XT (XW (SX.scope_r (Xr [1, 2] ((.tuple #[(D.Leaf.enc (⟨((l : Nat) : Int), placeN t (indexN addr ((l : Nat) : Int)), (D.Pte.get (D.loadM m (placeN t (indexN addr ((l : Nat) : Int))) 8))⟩ : D.Leaf)), (D.Fault.enc (⟨false, 0, 0⟩ : D.Fault))])) A H ?_))))))))))))))))))))))
      have hN : isN addr = true := h1
      have hl0 : D.lookN m root addr kind = D.look m addr kind 2 root false := by rw [D.lookN, if_pos hN]
      have hw0 : D.wordW m t addr l = 0 := by show D.wrongN _ _ _ = 0; omega
      have hf := D.look_leaf (kind := kind) (g := g) hw0 (show (D.wordP m t addr l).bad _ = false from h6) (show (D.wordP m t addr l).leaf = true from h7)
      rw [h3] at hf
      rw [hl0, hI.2.2, h3, hf]; rfl
     ·
      have A := A.rb 57 h7
      refine Xf A (XK (XN (XT (SX.drawn 6 [4] kr A H fun w H => SX.takes [4] [(0, none), (1, none)] A H kr kd kr kr kr (Or.inl kr) fun ac A => ?_))))
      have A := A.re 65 (.int .i64 (IntKind.i64.wrap (((l : Nat) : Int) - 1))) (.int .i64 ((((l - 1) : Nat) : Int))) kr (SX.i_subN _ 1 (by have hld := D.look_down (kind := kind) (g := g) (show D.wordW m t addr l = 0 by show D.wrongN _ _ _ = 0; omega) (show (D.wordP m t addr l).bad _ = false by assumption) (show (D.wordP m t addr l).leaf = false by assumption); exact hld.1) ko)
      refine SX.takes [4] [(2, none), (3, some 0), (4, none), (5, none)] A H kr kd kr kr kr (Or.inl kr) fun ac A => ?_
      refine SX.doneD kr ?_ _
      refine XN (XT ?_)
      obtain ⟨hI1, hI2, hI3⟩ := hI
      have hld := D.look_down (kind := kind) (g := g) (show D.wordW m t addr l = 0 by show D.wrongN _ _ _ = 0; omega) (show (D.wordP m t addr l).bad _ = false from h6) (show (D.wordP m t addr l).leaf = false from h7)
      have hpl : (D.wordP m t addr l).ppn < 17592186044416 := getN_lt2 _ 10 44 kc
      rw [h3] at hld
      exact ⟨(l - 1, (D.wordP m t addr l).ppn, (D.Pte.get (D.loadM m (placeN t (indexN addr ((l : Nat) : Int))) 8)).g), ⟨SX.bb H 0, SX.bb H 1, SX.bb H 2, SX.bb H 3, (⟨by omega, by omega, hI3.trans (by rw [h3]; exact hld.2)⟩), A.sub _ kr, (H.pick [0, 1, 2, 3] _ kc kr).ro_pick [0] _ kr⟩, by have := hld.1; show l - 1 < l; omega⟩
 ·
  have A := A.re 20 (.bool (!(isN addr))) (.bool true) kr (by rw [h1]; rfl)
  refine Xt A (XS (XR (Xb [0, 0, 0] A H fun ac w A H => Xc A H (Page_calls kind addr w (hL.below H.below) (hk)) fun ac w A H => Xb [1, 2] A H fun ac w A H => XD (XT (XW (XU (SX.scope_r (Xr [1, 2] ((.tuple #[(D.Leaf.enc (⟨0, 0, (⟨false, false, false, false, false, false, false, false, 0, 0, 0⟩ : D.Pte)⟩ : D.Leaf)), (D.Fault.enc (⟨true, causeN 2 kind, addr⟩ : D.Fault))])) A H ?_))))))))
  have hf : D.lookN m root addr kind = D.Found.no 2 kind addr := by rw [D.lookN, if_neg (by rw [h1]; decide)]
  rw [hf]; rfl
end Go.Proofs.YtfkmcdkncmapmaaGreatDoor
set_option linter.unusedVariables false
set_option linter.unusedSimpArgs false
set_option maxRecDepth 100000
set_option maxHeartbeats 1000000
namespace Go.Proofs.YtfkmcdkncmapmaaGreatDoor
open Go Go.RowKit
namespace D
theorem look_at {m : Mem} {addr : Nat} {kind : Int} : ∀ (l t : Nat) (g : Bool), t < 4503599627370495 → (look m addr kind l t g).leaf.at_ < 18446744073709551616
 | 0, t, g, ht => by
  have := indexN_lt addr 0
  unfold look; split
  · exact Nat.pos_of_ne_zero kc
  · split
    · exact Nat.pos_of_ne_zero kc
    · show placeN _ _ < _; unfold placeN; omega
 | l + 1, t, g, ht => by
  have := indexN_lt addr ((l + 1 : Nat) : Int)
  have hp : (wordP m t addr (l + 1)).ppn < 17592186044416 := getN_lt2 _ 10 44 kc
  unfold look; split
  · exact Nat.pos_of_ne_zero kc
  · split
    · exact Nat.pos_of_ne_zero kc
    · split
      · show placeN _ _ < _; unfold placeN; omega
      · exact look_at l _ _ ko
theorem lookN_at {m : Mem} {root addr : Nat} {kind : Int} (h : root < 4503599627370495) : (lookN m root addr kind).leaf.at_ < 18446744073709551616 := by
 unfold lookN; split
 · exact look_at _ _ _ h
 · exact Nat.pos_of_ne_zero kc
structure Walked where
 mem : Mem
 leaf : Leaf
 fault : Fault
def walkN (m : Mem) (root addr : Nat) (y : Way) : Walked :=
 if (lookN m root addr y.kind).fault.is_ = true then ⟨m, Leaf.zero, (lookN m root addr y.kind).fault⟩
 else if (lookN m root addr y.kind).leaf.pte.perm.allows y = true then ⟨markM m (lookN m root addr y.kind).leaf (y.kind == 2), markL m (lookN m root addr y.kind).leaf (y.kind == 2), Fault.zero⟩
 else ⟨m, Leaf.zero, ⟨true, causeN 2 y.kind, addr⟩⟩
end D
theorem Walk_calls (m : D.Mem) (root : Nat) (addr : Nat) (y : D.Way)  {no : List Nat} (s1 : SX.Sl) (w0 : World) (hno : ∀ b ∈ no, b < w0.heap.size) (hs1 : (D.memF s1 m.f).P w0 no) (hL : Ld w0) (hr : root < 4503599627370495) (haddr : addr < 18446744073709551616) (hk : y.kind = 0 ∨ y.kind = 1 ∨ y.kind = 2) (hms : m.size ≤ 1099511627776) : SX.Rets Tryz.prog 212 #[(D.Mem.enc m s1), .int .u64 (((root : Nat) : Int)), .int .u64 (((addr : Nat) : Int)), (D.Way.enc y)] w0 (fun r_ w => ∃ y1 : SX.Sl, r_ = (.tuple #[(D.Mem.enc ((D.walkN m root addr y).mem) y1), (D.Leaf.enc ((D.walkN m root addr y).leaf)), (D.Fault.enc ((D.walkN m root addr y).fault))]) ∧ (D.memF y1 (((D.walkN m root addr y).mem).f)).P w no) := by
 refine SX.enterN (args := [(D.Mem.enc m s1), .int .u64 (((root : Nat) : Int)), .int .u64 (((addr : Nat) : Int)), (D.Way.enc y)]) (hno := hno) 54 Tryz.func212 rfl kr fun ac A H => ?_
 have H := H.known (D.memF s1 m.f) hs1
 refine XS (XR (Xb [0, 0, 0, 0, 0] A H fun ac w A H => XD (XT (XS (XR (Xb [0, 0, 0, 0, 1] A H fun ac w A H => Xc A H (Look_calls m root addr y.kind s1 w H.nos_lt (H.fact' 0 (D.memF s1 m.f) kr) (hL.below H.below) ko ko (hk)) fun ac w A H => Xb [0, 0, 0, 0, 0, 5, 6] A H fun ac w A H => XD (XT (XS (XB (XS (XR (Xb [0, 6, 0] A H fun ac w A H => XD (XT ?_)))))))))))))
 refine Xs (((D.lookN m root addr y.kind).fault).is_) (fun h1 => ?_) fun h1 => ?_
 ·
  have A := A.rb 23 h1
  refine Xt A (XS (SX.drawn 6 [0, 6] kr A H fun w H => SX.takes [0, 6] [(0, some 0), (1, none), (2, some 1)] A H kr kd kr kr kr (Or.inl kr) fun ac A => SX.act 3 2 [0, 6] A H kr kr kr (Or.inl kr) fun ac w A H => SX.act 4 3 [0, 6] A H kr kr kr (Or.inl kr) fun ac w A H => SX.act 5 4 [0, 6] A H kr kr kr (Or.inl kr) fun ac w A H => ?_))
  refine SX.doneD kr ?_ _
  refine XT (XW (XQ (XU (Xr [2, 3, 4] ((.tuple #[(D.Mem.enc m s1), (D.Leaf.enc (⟨0, 0, (⟨false, false, false, false, false, false, false, false, 0, 0, 0⟩ : D.Pte)⟩ : D.Leaf)), (D.Fault.enc ((D.lookN m root addr y.kind).fault))])) A H ?_))))
  have hf : D.walkN m root addr y = ⟨m, D.Leaf.zero, (D.lookN m root addr y.kind).fault⟩ := by rw [D.walkN, if_pos h1]
  refine ⟨s1, ?_, (by rw [hf]; exact (H.out 0 (D.memF s1 m.f) kr))⟩
  rw [hf] <;> rfl
 ·
  have A := A.rb 23 h1
  refine Xf A (XS (SX.drawn 7 [1, 5] kr A H fun w H => SX.takes [1, 5] [(0, none), (1, some 1), (3, some 0)] A H kr kd kr kr kr (Or.inl kr) fun ac A => SX.callGD 2 [1, 5] A H (Perm_calls (((D.lookN m root addr y.kind).leaf).pte) w) kr kr kr kr (Or.inl kr) fun ac w A H => SX.callGD 4 [1, 5] A H (Allows_calls (D.Pte.perm (((D.lookN m root addr y.kind).leaf).pte)) y w (hL.below H.below) (hk)) kr kr kr kr (Or.inl kr) fun ac w A H => SX.takes [1, 5] [(5, none), (6, none)] A H kr kd kr kr kr (Or.inl kr) fun ac A => ?_))
  refine SX.doneD kr ?_ _
  refine XT ?_
  refine Xs ((D.Pte.perm (((D.lookN m root addr y.kind).leaf).pte)).allows y) (fun h2 => ?_) fun h2 => ?_
  ·
   have A := A.re 29 (.bool (!((D.Pte.perm (((D.lookN m root addr y.kind).leaf).pte)).allows y))) (.bool false) kr (by rw [h2]; rfl)
   refine Xf A (XK (XN (XT (XS (XR (Xb [0, 5, 0, 1, 0] A H fun ac w A H => SX.call A H (Mark_calls m ((D.lookN m root addr y.kind).leaf) (y.kind == 2) s1 w H.nos_lt (H.fact' 0 (D.memF s1 m.f) kr) (D.lookN_at hr) (by first | assumption | omega)) kr kr ?_))))))
   rintro _ ac w ⟨z2, rfl, hz2⟩ A H
   have H := H.learn (D.memF z2 ((D.markM m ((D.lookN m root addr y.kind).leaf) (y.kind == 2)).f)) hz2
   refine Xb [0, 0, 0, 0, 7, 5] A H fun ac w A H => XD (XT (XS (SX.drawn 6 [5, 7] kr A H fun w H => SX.takes [5, 7] [(0, some 1), (1, some 0), (2, none)] A H kr kd kr kr kr (Or.inl kr) fun ac A => SX.act 3 2 [5, 7] A H kr kr kr (Or.inl kr) fun ac w A H => SX.act 4 3 [5, 7] A H kr kr kr (Or.inl kr) fun ac w A H => SX.act 5 4 [5, 7] A H kr kr kr (Or.inl kr) fun ac w A H => ?_)))
   refine SX.doneD kr ?_ _
   refine XT (XW (Xr [2, 3, 4] ((.tuple #[(D.Mem.enc (D.markM m ((D.lookN m root addr y.kind).leaf) (y.kind == 2)) z2), (D.Leaf.enc (D.markL m ((D.lookN m root addr y.kind).leaf) (y.kind == 2))), (D.Fault.enc (⟨false, 0, 0⟩ : D.Fault))])) A H ?_))
   have hf : D.walkN m root addr y = ⟨D.markM m (D.lookN m root addr y.kind).leaf (y.kind == 2), D.markL m (D.lookN m root addr y.kind).leaf (y.kind == 2), D.Fault.zero⟩ := by rw [D.walkN, if_neg (by rw [h1]; decide), if_pos h2]
   refine ⟨z2, ?_, (by rw [hf]; exact (H.out 0 (D.memF z2 ((D.markM m ((D.lookN m root addr y.kind).leaf) (y.kind == 2)).f)) kr))⟩
   rw [hf] <;> rfl
  ·
   have A := A.re 29 (.bool (!((D.Pte.perm (((D.lookN m root addr y.kind).leaf).pte)).allows y))) (.bool true) kr (by rw [h2]; rfl)
   refine Xt A (XS (SX.drawn 9 [0, 1] kr A H fun w H => SX.takes [0, 1] [(0, some 0), (1, none), (2, none), (3, some 1), (4, none)] A H kr kd kr kr kr (Or.inl kr) fun ac A => SX.callGD 5 [0, 1] A H (Page_calls y.kind addr w (hL.below H.below) (hk)) kr kr kr kr (Or.inl kr) fun ac w A H => SX.act 6 2 [0, 1] A H kr kr kr (Or.inl kr) fun ac w A H => SX.act 7 3 [0, 1] A H kr kr kr (Or.inl kr) fun ac w A H => SX.act 8 4 [0, 1] A H kr kr kr (Or.inl kr) fun ac w A H => ?_))
   refine SX.doneD kr ?_ _
   refine XT (XW (XQ (XU (Xr [2, 3, 4] ((.tuple #[(D.Mem.enc m s1), (D.Leaf.enc (⟨0, 0, (⟨false, false, false, false, false, false, false, false, 0, 0, 0⟩ : D.Pte)⟩ : D.Leaf)), (D.Fault.enc (⟨true, causeN 2 y.kind, addr⟩ : D.Fault))])) A H ?_))))
   have hf : D.walkN m root addr y = ⟨m, D.Leaf.zero, ⟨true, causeN 2 y.kind, addr⟩⟩ := by rw [D.walkN, if_neg (by rw [h1]; decide), if_neg (by rw [h2]; decide)]
   refine ⟨s1, ?_, (by rw [hf]; exact (H.out 0 (D.memF s1 m.f) kr))⟩
   rw [hf] <;> rfl
namespace D
structure Brought where
 hart : Hart
 mem : Mem
def bringN (h : Hart) (m : Mem) (addr : Nat) (kind : Int) : Brought :=
 if h.satp.mode ≠ 8 then ⟨h, m⟩
 else if (lookN m h.satp.ppn addr kind).fault.is_ = true then ⟨h, m⟩
 else ⟨⟨h.tlb.put (Entry.of (markL m (lookN m h.satp.ppn addr kind).leaf false) addr h.satp.asid) h.victim, h.satp, h.priv, h.sum, h.mxr, -1⟩, markM m (lookN m h.satp.ppn addr kind).leaf false⟩
theorem look_lv {m : Mem} {addr : Nat} {kind : Int} : ∀ (l t : Nat) (g : Bool), l ≤ 2 → (look m addr kind l t g).leaf.level = 0 ∨ (look m addr kind l t g).leaf.level = 1 ∨ (look m addr kind l t g).leaf.level = 2
 | 0, t, g, _ => by
  unfold look; split
  · exact .inl rfl
  · split <;> exact .inl rfl
 | l + 1, t, g, hl => by
  unfold look; split
  · exact .inl rfl
  · split
    · exact .inl rfl
    · split
      · show ((l + 1 : Nat) : Int) = 0 ∨ ((l + 1 : Nat) : Int) = 1 ∨ ((l + 1 : Nat) : Int) = 2; omega
      · exact look_lv l _ _ ko
theorem lookN_lv (m : Mem) (root addr : Nat) (kind : Int) : (lookN m root addr kind).leaf.level = 0 ∨ (lookN m root addr kind).leaf.level = 1 ∨ (lookN m root addr kind).leaf.level = 2 := by
 unfold lookN; split
 · exact look_lv _ _ _ kc
 · exact .inl rfl
theorem look_ppn {m : Mem} {addr : Nat} {kind : Int} : ∀ (l t : Nat) (g : Bool), (look m addr kind l t g).leaf.pte.ppn < 17592186044416
 | 0, t, g => by
  unfold look; split
  · exact Nat.pos_of_ne_zero kc
  · split
    · exact Nat.pos_of_ne_zero kc
    · exact getN_lt2 _ 10 44 kc
 | l + 1, t, g => by
  unfold look; split
  · exact Nat.pos_of_ne_zero kc
  · split
    · exact Nat.pos_of_ne_zero kc
    · split
      · exact getN_lt2 _ 10 44 kc
      · exact look_ppn l _ _
theorem lookN_ppn (m : Mem) (root addr : Nat) (kind : Int) : (lookN m root addr kind).leaf.pte.ppn < 17592186044416 := by
 unfold lookN; split
 · exact look_ppn _ _ _
 · exact Nat.pos_of_ne_zero kc
end D
theorem Bring_calls (h : D.Hart) (m : D.Mem) (addr : Nat) (kind : Int)  {no : List Nat} (s1 s2 : SX.Sl) (w0 : World) (hno : ∀ b ∈ no, b < w0.heap.size) (hs1 : (D.tlbF s1 h.tlb.sets).P w0 no) (hs2 : (D.memF s2 m.f).P w0 no) (hL : Ld w0) (hr : h.satp.ppn < 4503599627370495) (ha : h.satp.asid < 18446744073709551616) (ht : h.tlb.Ok) (haddr : addr < 18446744073709551616) (hk : kind = 0 ∨ kind = 1 ∨ kind = 2) (hms : m.size ≤ 1099511627776) : SX.Rets Tryz.prog 135 #[(D.Hart.enc h s1), (D.Mem.enc m s2), .int .u64 (((addr : Nat) : Int)), .int .i64 kind] w0 (fun r_ w => ∃ y1 y2 : SX.Sl, r_ = (.tuple #[(D.Hart.enc ((D.bringN h m addr kind).hart) y1), (D.Mem.enc ((D.bringN h m addr kind).mem) y2)]) ∧ (D.tlbF y1 (((D.bringN h m addr kind).hart).tlb.sets)).P w no ∧ (D.memF y2 (((D.bringN h m addr kind).mem).f)).P w no) := by
 refine SX.enterN (args := [(D.Hart.enc h s1), (D.Mem.enc m s2), .int .u64 (((addr : Nat) : Int)), .int .i64 kind]) (hno := hno) 54 Tryz.func135 rfl kr fun ac A H => ?_
 have H := H.known (D.tlbF s1 h.tlb.sets) hs1
 have H := H.known (D.memF s2 m.f) hs2
 refine XS (XR (Xb [0, 0, 0, 0] A H fun ac w A H => XD (XT (XS (XS (XR (Xb [0, 0] A H fun ac w A H => Xc A H (On_calls h.satp w) fun ac w A H => Xb [0] A H fun ac w A H => XD (XT ?_))))))))
 refine Xs (decide (h.satp.mode = 8)) (fun h1 => ?_) fun h1 => ?_
 ·
  have A := A.re 16 (.bool (!(decide (h.satp.mode = 8)))) (.bool false) kr (by rw [h1]; rfl)
  refine Xf A (XK (XT (XS (XR (Xb [1, 0, 0, 0, 0, 0] A H fun ac w A H => Xc A H (Look_calls m h.satp.ppn addr kind s2 w H.nos_lt (H.fact' 0 (D.memF s2 m.f) kr) (hL.below H.below) ko ko (hk)) fun ac w A H => Xb [0, 0, 0, 0, 0, 4, 5] A H fun ac w A H => XD (XT (XS (XS (XR (Xb [0, 5] A H fun ac w A H => XD (XT ?_)))))))))))
  refine Xs (((D.lookN m h.satp.ppn addr kind).fault).is_) (fun h2 => ?_) fun h2 => ?_
  ·
   have A := A.rb 30 h2
   refine Xt A (XS (SX.drawn 4 [0, 1] kr A H fun w H => SX.takes [0, 1] [(0, some 0), (1, some 1)] A H kr kd kr kr kr (Or.inl kr) fun ac A => SX.act 2 2 [0, 1] A H kr kr kr (Or.inl kr) fun ac w A H => SX.act 3 3 [0, 1] A H kr kr kr (Or.inl kr) fun ac w A H => ?_))
   refine SX.doneD kr ?_ _
   refine XT (XW (XU (Xr [2, 3] ((.tuple #[(D.Hart.enc h s1), (D.Mem.enc m s2)])) A H ?_)))
   have hf : D.bringN h m addr kind = ⟨h, m⟩ := by rw [D.bringN, if_neg (by simpa using h1), if_pos h2]
   refine ⟨s1, s2, ?_, (by rw [hf]; exact (H.out 1 (D.tlbF s1 h.tlb.sets) kr)), (by rw [hf]; exact (H.out 0 (D.memF s2 m.f) kr))⟩
   rw [hf] <;> rfl
  ·
   have A := A.rb 30 h2
   refine Xf A (XK (XT (XS (XR (Xb [1, 4] A H fun ac w A H => SX.call A H (Mark_calls m ((D.lookN m h.satp.ppn addr kind).leaf) false s2 w H.nos_lt (H.fact' 0 (D.memF s2 m.f) kr) (D.lookN_at hr) (by first | assumption | omega)) kr kr ?_)))))
   rintro _ ac w ⟨z3, rfl, hz3⟩ A H
   have H := H.learn (D.memF z3 ((D.markM m ((D.lookN m h.satp.ppn addr kind).leaf) false).f)) hz3
   refine Xb [0, 0, 0, 0, 6, 4] A H fun ac w A H => XD (XT (XS (SX.drawn 12 [0, 4] kr A H fun w H => SX.takes [0, 4] [(0, none), (1, some 0), (2, some 1), (3, none), (4, none), (5, none), (6, some 0), (8, none), (9, some 0)] A H kr kd kr kr kr (Or.inl kr) fun ac A => SX.callGD 7 [0, 4] A H (eOf_calls (D.markL m ((D.lookN m h.satp.ppn addr kind).leaf) false) addr h.satp.asid w (hL.below H.below) ko (D.lookN_lv _ _ _ _)) kr kr kr kr (Or.inl kr) fun ac w A H => SX.callD 10 [0, 4] A H (tPut_calls h.tlb (D.Entry.of (D.markL m ((D.lookN m h.satp.ppn addr kind).leaf) false) addr h.satp.asid) h.victim s1 w H.nos_lt (H.fact' 2 (D.tlbF s1 h.tlb.sets) kr) (hL.below H.below) (by assumption) (rfl) (D.lookN_lv _ _ _ _) (Nat.lt_trans (numberN_lt _) kc) (Nat.lt_trans (D.lookN_ppn _ _ _ _) kc) (ha)) kr kr kr kr (Or.inl kr) ?_)))
   rintro _ ac w ⟨z4, rfl, hz4⟩ A H
   have H := H.learn (D.tlbF z4 ((h.tlb.put (D.Entry.of (D.markL m ((D.lookN m h.satp.ppn addr kind).leaf) false) addr h.satp.asid) h.victim).sets)) hz4
   refine SX.takes [0, 4] [(11, none)] A H kr kd kr kr kr (Or.inl kr) (k := 1) fun ac A => SX.act 12 0 [0, 4] A H kr kr kr (Or.inr kr) (k := 1) fun ac w A H => SX.takes [0, 4] [(13, none)] A H kr kd kr kr kr (Or.inr kr) (k := 1) fun ac A => SX.act 14 0 [0, 4] A H kr kr kr (Or.inr kr) (k := 1) fun ac w A H => ?_
   refine SX.doneD kr ?_ _
   refine XT (XS (SX.drawn 4 [0, 6] kr A H fun w H => SX.takes [0, 6] [(0, some 0), (1, some 1)] A H kr kd kr kr kr (Or.inl kr) fun ac A => SX.act 2 2 [0, 6] A H kr kr kr (Or.inl kr) fun ac w A H => SX.act 3 3 [0, 6] A H kr kr kr (Or.inl kr) fun ac w A H => ?_))
   refine SX.doneD kr ?_ _
   refine XT (XW (Xr [2, 3] ((.tuple #[(D.Hart.enc (⟨(h.tlb.put (D.Entry.of (D.markL m ((D.lookN m h.satp.ppn addr kind).leaf) false) addr h.satp.asid) h.victim), h.satp, h.priv, h.sum, h.mxr, (-1)⟩ : D.Hart) z4), (D.Mem.enc (D.markM m ((D.lookN m h.satp.ppn addr kind).leaf) false) z3)])) A H ?_))
   have hf : D.bringN h m addr kind = ⟨⟨h.tlb.put (D.Entry.of (D.markL m (D.lookN m h.satp.ppn addr kind).leaf false) addr h.satp.asid) h.victim, h.satp, h.priv, h.sum, h.mxr, -1⟩, D.markM m (D.lookN m h.satp.ppn addr kind).leaf false⟩ := by rw [D.bringN, if_neg (by simpa using h1), if_neg (by rw [h2]; decide)]
   refine ⟨z4, z3, ?_, (by rw [hf]; exact (H.out 0 (D.tlbF z4 ((h.tlb.put (D.Entry.of (D.markL m ((D.lookN m h.satp.ppn addr kind).leaf) false) addr h.satp.asid) h.victim).sets)) kr)), (by rw [hf]; exact (H.out 1 (D.memF z3 ((D.markM m ((D.lookN m h.satp.ppn addr kind).leaf) false).f)) kr))⟩
   rw [hf] <;> rfl
 ·
  have A := A.re 16 (.bool (!(decide (h.satp.mode = 8)))) (.bool true) kr (by rw [h1]; rfl)
  refine Xt A (XS (SX.drawn 4 [0, 1] kr A H fun w H => SX.takes [0, 1] [(0, some 0), (1, some 1)] A H kr kd kr kr kr (Or.inl kr) fun ac A => SX.act 2 2 [0, 1] A H kr kr kr (Or.inl kr) fun ac w A H => SX.act 3 3 [0, 1] A H kr kr kr (Or.inl kr) fun ac w A H => ?_))
  refine SX.doneD kr ?_ _
  refine XT (XW (XU (Xr [2, 3] ((.tuple #[(D.Hart.enc h s1), (D.Mem.enc m s2)])) A H ?_)))
  have hf : D.bringN h m addr kind = ⟨h, m⟩ := by rw [D.bringN, if_pos (by simpa using h1)]
  refine ⟨s1, s2, ?_, (by rw [hf]; exact (H.out 1 (D.tlbF s1 h.tlb.sets) kr)), (by rw [hf]; exact (H.out 0 (D.memF s2 m.f) kr))⟩
  rw [hf] <;> rfl
end Go.Proofs.YtfkmcdkncmapmaaGreatDoor
