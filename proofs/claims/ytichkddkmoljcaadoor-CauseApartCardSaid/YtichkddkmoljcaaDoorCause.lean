/- The package cause: what its functions answer while its three tables hold what their declarations lay. -/
import Derived.Test.YtichkddkmoljcaaDoorProg
import Derived.Test.YtichkddkmoljcaaDoorWMore
import Derived.WalkLawsBesides
import Derived.Lib.Hide
set_option linter.unusedVariables false
set_option linter.unusedSimpArgs false
namespace Go.Proofs.YtichkddkmoljcaaDoor
open Go.RowKit

/-- The causes, by sort (from 0 on) and kind. -/
def causeOf (s k : Int) : Int :=
  if s = 0 then (if k = 0 then 0 else if k = 1 then 4 else 6) else if s = 1 then (if k = 0 then 1 else if k = 1 then 5 else 7) else (if k = 0 then 12 else if k = 1 then 13 else 15)
def cells0 : Array Value := #[.int .i64 0, .int .i64 4, .int .i64 6, .int .i64 1, .int .i64 5, .int .i64 7, .int .i64 12, .int .i64 13, .int .i64 15]
abbrev sOdd : ByteArray := ⟨#[111, 100, 100]⟩
abbrev sAccess : ByteArray := ⟨#[97, 99, 99, 101, 115, 115]⟩
abbrev sPage : ByteArray := ⟨#[112, 97, 103, 101]⟩
abbrev sFetch : ByteArray := ⟨#[102, 101, 116, 99, 104]⟩
abbrev sLoad : ByteArray := ⟨#[108, 111, 97, 100]⟩
abbrev sStore : ByteArray := ⟨#[115, 116, 111, 114, 101]⟩
def cells1 : Array Value := #[.string sOdd, .string sAccess, .string sPage]
def cells2 : Array Value := #[.string sFetch, .string sLoad, .string sStore]

/-- The tables hold what their declarations lay. -/
structure Ld (w : World) : Prop where
  b0 : ∃ t fr, w.heap[0]? = some (.cells cells0 t fr)
  b1 : ∃ t fr, w.heap[1]? = some (.cells cells1 t fr)
  b2 : ∃ t fr, w.heap[2]? = some (.cells cells2 t fr)
theorem Ld.size {w : World} (h : Ld w) : 2 < w.heap.size := by
  obtain ⟨t, fr, e⟩ := h.b2
  exact (Array.getElem?_eq_some_iff.1 e).1
theorem Ld.below {w w1 : World} (h : Ld w) (hb : Below w.heap.size w w1) : Ld w1 := by
  have hz := h.size
  obtain ⟨⟨t0, fr0, e0⟩, ⟨t1, fr1, e1⟩, ⟨t2, fr2, e2⟩⟩ := h
  exact ⟨⟨t0, fr0, (hb.block 0 (by omega)).trans e0⟩, ⟨t1, fr1, (hb.block 1 (by omega)).trans e1⟩, ⟨t2, fr2, (hb.block 2 (by omega)).trans e2⟩⟩
theorem cell_of_block {w : World} {b : Nat} {cs : Array Value} {t : TypeId} {fr : Nat × Nat} (h : w.heap[b]? = some (.cells cs t fr)) (i : Nat) (v : Value) (hv : cs[i]? = some v) : w.cell? ⟨b, i, none⟩ = some v := by
  simp [World.cell?, h, hv]
theorem Ld.c0 {w : World} (h : Ld w) (i : Nat) (v : Value) (hv : cells0[i]? = some v) : w.cell? ⟨0, i, none⟩ = some v := by
  obtain ⟨t, fr, e⟩ := h.b0
  exact cell_of_block e i v hv

theorem Ld.alloc {w : World} (h : Ld w) (o : Obj) : Ld (w.alloc o) := h.below ((Below.refl _ _).alloc (Nat.le_refl _) _)
theorem Ld.k0 {w : World} (h : Ld w) (i : Nat) (z : Int) (hv : cells0[i]? = some (.int .i64 z)) : ∀ o, (w.alloc o).cell? ⟨0, i, none⟩ = some (.int .i64 z) := fun o => (h.alloc o).c0 i _ hv

/-- A fault, as a value. -/
def faultV (c addr : Int) : Value := .agg #[.bool true, .int .i64 c, .int .u64 addr]
/-- What a call that tells a fault comes to. -/
def Tells (w : World) (c addr : Int) (e : Ending) (w' : World) : Prop := e = .returned (.agg #[.bool true, .int .i64 c, .int .u64 addr]) ∧ Below w.heap.size w w'

set_option maxRecDepth 100000 in
theorem of_calls (s k : Int) (addr : Int) (w : World) (h : Ld w) (hs : s = 0 ∨ s = 1 ∨ s = 2) (hk : k = 0 ∨ k = 1 ∨ k = 2) :
    Calls Tryd.prog 16 #[.int .i64 s, .int .i64 k, .int .u64 addr] w (Tells w (causeOf s k) addr) := by
  have hz := h.size
  have fin : ∀ o, Below w.heap.size w (w.alloc o) := fun o => (Below.refl _ _).alloc (Nat.le_refl _) _
  have hid := Lib.hid fin
  clear fin
  rcases hs with rfl | rfl | rfl <;> rcases hk with rfl | rfl | rfl
  · have hc := h.k0 0 _ rfl
    go_enter Tryd.func16, Tryd.ntmps16
    go_wp2
    exact bodyPost_ret (v := .agg #[.bool true, .int .i64 0, .int .u64 addr]) (by simp [results, Tryd.results16, go_sem]) rfl ⟨rfl, hid.out _⟩
  · have hc := h.k0 1 _ rfl
    go_enter Tryd.func16, Tryd.ntmps16
    go_wp2
    exact bodyPost_ret (v := .agg #[.bool true, .int .i64 4, .int .u64 addr]) (by simp [results, Tryd.results16, go_sem]) rfl ⟨rfl, hid.out _⟩
  · have hc := h.k0 2 _ rfl
    go_enter Tryd.func16, Tryd.ntmps16
    go_wp2
    exact bodyPost_ret (v := .agg #[.bool true, .int .i64 6, .int .u64 addr]) (by simp [results, Tryd.results16, go_sem]) rfl ⟨rfl, hid.out _⟩
  · have hc := h.k0 3 _ rfl
    go_enter Tryd.func16, Tryd.ntmps16
    go_wp2
    exact bodyPost_ret (v := .agg #[.bool true, .int .i64 1, .int .u64 addr]) (by simp [results, Tryd.results16, go_sem]) rfl ⟨rfl, hid.out _⟩
  · have hc := h.k0 4 _ rfl
    go_enter Tryd.func16, Tryd.ntmps16
    go_wp2
    exact bodyPost_ret (v := .agg #[.bool true, .int .i64 5, .int .u64 addr]) (by simp [results, Tryd.results16, go_sem]) rfl ⟨rfl, hid.out _⟩
  · have hc := h.k0 5 _ rfl
    go_enter Tryd.func16, Tryd.ntmps16
    go_wp2
    exact bodyPost_ret (v := .agg #[.bool true, .int .i64 7, .int .u64 addr]) (by simp [results, Tryd.results16, go_sem]) rfl ⟨rfl, hid.out _⟩
  · have hc := h.k0 6 _ rfl
    go_enter Tryd.func16, Tryd.ntmps16
    go_wp2
    exact bodyPost_ret (v := .agg #[.bool true, .int .i64 12, .int .u64 addr]) (by simp [results, Tryd.results16, go_sem]) rfl ⟨rfl, hid.out _⟩
  · have hc := h.k0 7 _ rfl
    go_enter Tryd.func16, Tryd.ntmps16
    go_wp2
    exact bodyPost_ret (v := .agg #[.bool true, .int .i64 13, .int .u64 addr]) (by simp [results, Tryd.results16, go_sem]) rfl ⟨rfl, hid.out _⟩
  · have hc := h.k0 8 _ rfl
    go_enter Tryd.func16, Tryd.ntmps16
    go_wp2
    exact bodyPost_ret (v := .agg #[.bool true, .int .i64 15, .int .u64 addr]) (by simp [results, Tryd.results16, go_sem]) rfl ⟨rfl, hid.out _⟩

/-- A block of three cells that was laid ahead of a call, behind the call. -/
theorem own3 {w w1 : World} {a b c : Value} {t : TypeId} (hb : Below (w.alloc (.cells #[a, b, c] t)).heap.size (w.alloc (.cells #[a, b, c] t)) w1) :
    (w1.cell? ⟨w.heap.size, 0, none⟩ = some a ∧ w1.cell? ⟨w.heap.size, 1, none⟩ = some b ∧ w1.cell? ⟨w.heap.size, 2, none⟩ = some c) ∧
    (w1.frozen? ⟨w.heap.size, 0, none⟩ = false ∧ w1.frozen? ⟨w.heap.size, 1, none⟩ = false ∧ w1.frozen? ⟨w.heap.size, 2, none⟩ = false) ∧ w.heap.size < w1.heap.size ∧ Below w.heap.size w w1 := by
  have hs := hb.size
  have hz : w.heap.size < (w.alloc (.cells #[a, b, c] t)).heap.size := by simp
  have c0 := hb.cell (p := ⟨w.heap.size, 0, none⟩) hz
  have c1 := hb.cell (p := ⟨w.heap.size, 1, none⟩) hz
  have c2 := hb.cell (p := ⟨w.heap.size, 2, none⟩) hz
  have f0 := hb.frozen (p := ⟨w.heap.size, 0, none⟩) hz
  have f1 := hb.frozen (p := ⟨w.heap.size, 1, none⟩) hz
  have f2 := hb.frozen (p := ⟨w.heap.size, 2, none⟩) hz
  refine ⟨⟨c0.trans ?_, c1.trans ?_, c2.trans ?_⟩, ⟨f0.trans ?_, f1.trans ?_, f2.trans ?_⟩, by omega, ((Below.refl _ _).alloc (Nat.le_refl _) _).trans (hb.mono (by simp))⟩ <;> simp [go_sem]

set_option maxRecDepth 100000 in
theorem odd_calls (k : Int) (addr : Int) (w : World) (h : Ld w) (hk : k = 0 ∨ k = 1 ∨ k = 2) :
    Calls Tryd.prog 8 #[.int .i64 k, .int .u64 addr] w (Tells w (causeOf 0 k) addr) := by
  go_enter Tryd.func8, Tryd.ntmps8
  go_wp2_with fail
  refine (of_calls 0 k addr _ (h.alloc _) (by omega) hk).mono ?_
  rintro e w1 ⟨rfl, hb⟩
  obtain ⟨⟨c0, c1, c2⟩, ⟨f0, f1, f2⟩, hz, hw⟩ := own3 hb
  have hid := Lib.hid hw
  clear hw hb
  go_wp2_with fail
  exact bodyPost_ret (v := .agg #[.bool true, .int .i64 (causeOf 0 k), .int .u64 addr]) (by simp [results, Tryd.results8, go_sem, c0, c1, c2]) rfl
    ⟨rfl, ((hid.out.setCell (by simp) _).setCell (by simp) _).setCell (by simp) _⟩

set_option maxRecDepth 100000 in
theorem access_calls (k : Int) (addr : Int) (w : World) (h : Ld w) (hk : k = 0 ∨ k = 1 ∨ k = 2) :
    Calls Tryd.prog 10 #[.int .i64 k, .int .u64 addr] w (Tells w (causeOf 1 k) addr) := by
  go_enter Tryd.func10, Tryd.ntmps10
  go_wp2_with fail
  refine (of_calls 1 k addr _ (h.alloc _) (by omega) hk).mono ?_
  rintro e w1 ⟨rfl, hb⟩
  obtain ⟨⟨c0, c1, c2⟩, ⟨f0, f1, f2⟩, hz, hw⟩ := own3 hb
  have hid := Lib.hid hw
  clear hw hb
  go_wp2_with fail
  exact bodyPost_ret (v := .agg #[.bool true, .int .i64 (causeOf 1 k), .int .u64 addr]) (by simp [results, Tryd.results10, go_sem, c0, c1, c2]) rfl
    ⟨rfl, ((hid.out.setCell (by simp) _).setCell (by simp) _).setCell (by simp) _⟩

set_option maxRecDepth 100000 in
theorem page_calls (k : Int) (addr : Int) (w : World) (h : Ld w) (hk : k = 0 ∨ k = 1 ∨ k = 2) :
    Calls Tryd.prog 11 #[.int .i64 k, .int .u64 addr] w (Tells w (causeOf 2 k) addr) := by
  go_enter Tryd.func11, Tryd.ntmps11
  go_wp2_with fail
  refine (of_calls 2 k addr _ (h.alloc _) (by omega) hk).mono ?_
  rintro e w1 ⟨rfl, hb⟩
  obtain ⟨⟨c0, c1, c2⟩, ⟨f0, f1, f2⟩, hz, hw⟩ := own3 hb
  have hid := Lib.hid hw
  clear hw hb
  go_wp2_with fail
  exact bodyPost_ret (v := .agg #[.bool true, .int .i64 (causeOf 2 k), .int .u64 addr]) (by simp [results, Tryd.results11, go_sem, c0, c1, c2]) rfl
    ⟨rfl, ((hid.out.setCell (by simp) _).setCell (by simp) _).setCell (by simp) _⟩

/-- A cause's sort (from 1 on) and kind. -/
def sortOf (n : Int) : Int × Int :=
  if n = 0 then (1, 0) else if n = 4 then (1, 1) else if n = 6 then (1, 2) else if n = 1 then (2, 0) else if n = 5 then (2, 1) else if n = 7 then (2, 2) else
  if n = 12 then (3, 0) else if n = 13 then (3, 1) else if n = 15 then (3, 2) else (0, 0)
def Sorts (w : World) (s k : Int) (e : Ending) (w' : World) : Prop := e = .returned (.tuple #[.int .i64 s, .int .i64 k]) ∧ Below w.heap.size w w'
def whole : Value := .agg #[.int .i64 0, .int .i64 4, .int .i64 6, .int .i64 1, .int .i64 5, .int .i64 7, .int .i64 12, .int .i64 13, .int .i64 15]
theorem row0 (w : World) : (Instr.index 39 (.agg cells0) (.int .i64 0)).run Tryd.prog w = .ok (.agg #[.int .i64 0, .int .i64 4, .int .i64 6]) w := by kernel_rfl
theorem row1 (w : World) : (Instr.index 39 (.agg cells0) (.int .i64 1)).run Tryd.prog w = .ok (.agg #[.int .i64 1, .int .i64 5, .int .i64 7]) w := by kernel_rfl
theorem row2 (w : World) : (Instr.index 39 (.agg cells0) (.int .i64 2)).run Tryd.prog w = .ok (.agg #[.int .i64 12, .int .i64 13, .int .i64 15]) w := by kernel_rfl
theorem at0 (a b c : Int) (w : World) : (Instr.index 38 (.agg #[.int .i64 a, .int .i64 b, .int .i64 c]) (.int .i64 0)).run Tryd.prog w = .ok (.int .i64 a) w := by kernel_rfl
theorem at1 (a b c : Int) (w : World) : (Instr.index 38 (.agg #[.int .i64 a, .int .i64 b, .int .i64 c]) (.int .i64 1)).run Tryd.prog w = .ok (.int .i64 b) w := by kernel_rfl
theorem at2 (a b c : Int) (w : World) : (Instr.index 38 (.agg #[.int .i64 a, .int .i64 b, .int .i64 c]) (.int .i64 2)).run Tryd.prog w = .ok (.int .i64 c) w := by kernel_rfl

end Go.Proofs.YtichkddkmoljcaaDoor
