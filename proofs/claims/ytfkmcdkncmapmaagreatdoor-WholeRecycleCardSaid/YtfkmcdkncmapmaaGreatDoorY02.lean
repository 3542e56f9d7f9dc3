/- Short names for the rows of a walk that come often; what the kernel reckons is asked by itself. -/
import Derived.Test.YtfkmcdkncmapmaaGreatDoorY01
import Derived.Test.YtfkmcdkncmapmaaGreatDoorProg
import Derived.Test.YtfkmcdkncmapmaaGreatDoorRows
import Derived.ProofKit
import Derived.LaidMore
import Derived.OpenShut
import Derived.Lib.LaidTab
import Derived.Stop.Joined
import Derived.LaidOnce
import Derived.Deep.AppendSrc
import Derived.Deep.Upon
import Derived.Laws.CopyRow
import Derived.Laws.MakeOwn
import Derived.ScopeJumps
set_option linter.unusedVariables false
set_option maxRecDepth 100000
namespace Go.Proofs.YtfkmcdkncmapmaaGreatDoor
open Go Go.RowKit
universe u
theorem kr {α : Sort u} {a b : α} (h : a = b := by kernel_rfl) : a = b := h
theorem kc {p : Prop} (h : p := by decide) : p := h
theorem ko {p : Prop} (h : p := by omega) : p := h
theorem kd {p : Prop} (h : p := by (intro _ _ d _ _ h; cases d <;> exact h)) : p := h
theorem kp {p q : Prop} (h : p) (k : p → q := by (intro hh; simp only [beq_iff_eq, beq_eq_false_iff_ne, bne_iff_ne, ne_eq, bne_eq_false_iff_eq, decide_eq_true_eq, decide_eq_false_iff_not] at hh; omega)) : q := k h
abbrev XS := @SX.seq
abbrev XR := @wp_region
abbrev XT := @SX.then_n
abbrev XK := @wp_skip
abbrev XB := @wp_block
abbrev XN := @SX.blk_n
abbrev XW := @wp_ret
abbrev XU := @SX.then_r
abbrev XQ := @SX.blk_r
abbrev XX := @SX.then_x
abbrev XE := @SX.blk_exit
abbrev XI := @wp_exit
abbrev XO := @SX.round
abbrev Xs {G : Prop} (b : Bool) (ht : b = true → G) (hf : b = false → G) : G := SX.bsplit b ht hf
namespace SX
/-- The bits of a number, as a row of Bools. -/
def msk (n m : Nat) : Array Bool := ((List.range n).map fun i => m.testBit i).toArray
theorem Own.re1 {w0 w : World} {bs : Boxes} {ro : Rd} {α : Type} (h : Own w0 w bs ro) (j b : Nat) {x y : α} (F : α → Obj) (hxy : y = x) (hj : bs[j]? = some (b, F x) := by kernel_rfl) : Own w0 w (setNth bs j (b, F y)) ro := h.re j b (F x) (F y) hj (by rw [hxy])
theorem Agrees.rb {n : Nat} {a : Act} {e : Env} (h : Agrees n a e) (d : Nat) {b b' : Bool} (hb : b = b') (hg : Env.get e d = some (.bool b) := by kernel_rfl) : Agrees n a ((d, .bool b') :: e) := h.re d _ _ hg (by rw [hb])
/-- A value told anew: both are told by the proof that they are the same. -/
theorem Agrees.rv {n : Nat} {a : Act} {e : Env} (h : Agrees n a e) (d : Nat) {v v' : Value} (hv : v = v') (hg : Env.get e d = some v := by kernel_rfl) : Agrees n a ((d, v') :: e) := h.re d _ _ hg hv
end SX
section
open SX
variable {P : Program} {Q : Exit → Act → World → Prop} {n : Nat} {w0 : World} {ro : Rd} {e : Env} {bs : Boxes} {a : Act} {w : World}
theorem Xb {ops : Array Oper} {ks : List Nat} (js : List Nat) (A : Agrees n a e) (H : Own w0 w bs ro)
    (K : ∀ a' w', Agrees n a' (after (runL P ro.fb ops n (hinted ks js) e bs w.heap.size [])).1 → Own w0 w' (after (runL P ro.fb ops n (hinted ks js) e bs w.heap.size [])).2.1 ro → wpOps P ops Q (ks.drop js.length) a' w')
    (hr : (runL P ro.fb ops n (hinted ks js) e bs w.heap.size []).map Res.fsts = some (Res.snds (after (runL P ro.fb ops n (hinted ks js) e bs w.heap.size []))) := by kernel_rfl)
    (hk : ks = (hinted ks js).map (·.1) ++ ks.drop js.length := by kernel_rfl) : wpOps P ops Q ks a w := batch js A H hr hk K
theorem XD {ops : Array Oper} {ks : List Nat} (K : Q .normal a w) (hk : ks = [] := by kernel_rfl) : wpOps P ops Q ks a w := ops_done hk K
theorem Xt {c : Operand} {x y : Code} (A : Agrees n a e) (ht : x.wp P Q a w) (hb : rho e c = .bool true := by kernel_rfl) (hk : known e c = true := by kernel_rfl) : (Code.cond c x y).wp P Q a w := condT A hb hk ht
theorem Xf {c : Operand} {x y : Code} (A : Agrees n a e) (ht : y.wp P Q a w) (hb : rho e c = .bool false := by kernel_rfl) (hk : known e c = true := by kernel_rfl) : (Code.cond c x y).wp P Q a w := condF A hb hk ht
theorem Xc {ops : Array Oper} {ks : List Nat} {f : Nat} {args : Array Value} {v : Value} (A : Agrees n a e) (H : Own w0 w bs ro) (hc : Gives P f args w v)
    (K : ∀ a' w', Agrees n a' (put1 n ops ks v e) → Own w0 w' bs ro → wpOps P ops Q (ks.drop 1) a' w')
    (hx : callOf P ops e ks = some (f, args) := by kernel_rfl) (hd : (bindE n (dstOf ops ks) undef e).isSome = true := by kernel_rfl) : wpOps P ops Q ks a w := callG A H hc hx hd K
theorem Xr {fn : Func} {Φ : Value → World → Prop} (js : List Nat) (v : Value) (A : Agrees n a e) (H : Own w0 w bs ro) (hΦ : Φ v w) (hj : fn.results.toList = (fn.results.toList.zip js).map (·.1) := by kernel_rfl)
    (hr : (runRs P ro.fb e bs (fn.results.toList.zip js) []).map (fun r => r.2.map (·.1)) = some ((afterR (runRs P ro.fb e bs (fn.results.toList.zip js) [])).2.map (·.2)) := by kernel_rfl)
    (hv : valOf (afterR (runRs P ro.fb e bs (fn.results.toList.zip js) [])).1 = v := by kernel_rfl) :
    bodyPost P fn (fun e w' => ∃ v, e = .returned v ∧ Below w0.heap.size w0 w' ∧ Φ v w') .ret a w := ret js v A H hj hr hv hΦ
end
end Go.Proofs.YtfkmcdkncmapmaaGreatDoor
set_option linter.unusedVariables false
set_option linter.unusedSimpArgs false
set_option maxRecDepth 100000
set_option maxHeartbeats 2000000
namespace Go.Proofs.YtfkmcdkncmapmaaGreatDoor
open Go Go.RowKit
def deb : List Nat := [0, 1, 56, 2, 57, 49, 28, 3, 61, 58, 42, 50, 38, 29, 17, 4, 62, 47, 59, 36, 45, 43, 51, 22, 53, 39, 33, 30, 24, 18, 12, 5, 63, 55, 48, 27, 60, 41, 37, 16, 46, 35, 44, 21, 52, 32, 23, 11, 54, 26, 40, 15, 34, 20, 31, 10, 25, 14, 19, 9, 13, 8, 7, 6]
/-- What the package-level variables hold. -/
structure Ld (w : World) : Prop where
 sizes : ∃ T fr, w.heap[0]? = some (.cells #[.int .u64 4096, .int .u64 2097152, .int .u64 1073741824] T fr)
 deb : ∃ T fr, w.heap[1]? = some (.cells (deb.map fun n => .int .u8 (n : Int)).toArray T fr)
 twos : ∃ T fr, w.heap[2]? = some (.cells #[.int .u64 0, .int .u64 1, .int .u64 510, .int .u64 511] T fr)
 ones : ∃ T fr, w.heap[3]? = some (.cells #[.int .u64 0, .int .u64 1, .int .u64 2, .int .u64 511] T fr)
 asks : ∃ T fr b o cap cs T' fr', w.heap[4]? = some (.cells #[.slice (some ⟨b, o, none⟩) 2 cap] T fr) ∧ w.heap[b]? = some (.cells cs T' fr') ∧ cs[o]? = some (.func (.func 263) #[] #[]) ∧ cs[o + 1]? = some (.func (.func 265) #[] #[])
 causes : ∃ T fr, w.heap[5]? = some (.cells #[.int .i64 0, .int .i64 4, .int .i64 6, .int .i64 1, .int .i64 5, .int .i64 7, .int .i64 12, .int .i64 13, .int .i64 15] T fr)
 perms : ∃ T fr, w.heap[6]? = some (.cells #[.func (.func 266) #[] #[], .func (.func 267) #[] #[], .func (.func 268) #[] #[]] T fr)
 touches : ∃ T fr, w.heap[7]? = some (.cells #[.int .u8 3, .int .u8 0, .int .u8 1, .int .u8 2, .int .u8 4, .int .u8 1, .int .u8 0, .int .u8 5] T fr)
theorem Ld.later {w w' : World} (h : Ld w) (hb : ∀ (k : Nat) (o : Obj), w.heap[k]? = some o → w'.heap[k]? = some o) : Ld w' := by
 obtain ⟨⟨T0, f0, h0⟩, ⟨T1, f1, h1⟩, ⟨T2, f2, h2⟩, ⟨T3, f3, h3⟩, ⟨T4, f4, b, o, cap, cs, T4', f4', h4, h4', hc⟩, ⟨T5, f5, h5⟩, ⟨T6, f6, h6⟩, ⟨T7, f7, h7⟩⟩ := h
 exact ⟨⟨_, _, hb _ _ h0⟩, ⟨_, _, hb _ _ h1⟩, ⟨_, _, hb _ _ h2⟩, ⟨_, _, hb _ _ h3⟩, ⟨_, _, _, _, _, _, _, _, hb _ _ h4, hb _ _ h4', hc⟩, ⟨_, _, hb _ _ h5⟩, ⟨_, _, hb _ _ h6⟩, ⟨_, _, hb _ _ h7⟩⟩
theorem Ld.below {w w' : World} (h : Ld w) (hb : Below w.heap.size w w') : Ld w' := h.later fun k o ho => by rw [hb.block _ (SX.getElem?_lt ho)]; exact ho
end Go.Proofs.YtfkmcdkncmapmaaGreatDoor
set_option linter.unusedVariables false
set_option linter.unusedSimpArgs false
set_option maxRecDepth 100000
namespace Go.Proofs.YtfkmcdkncmapmaaGreatDoor
open Go.ChangeShapes Go.WideShapes Go.ChangeAt Go.WideElems Go.RowKit
namespace Lay
abbrev laidAll : List (String × DataW Unit) := [("atlas/cause.causes", Rows.laid_atlas_cause_causes), ("atlas/perm.asks", Rows.laid_atlas_perm_asks), ("atlas/plru.touches", Rows.laid_atlas_plru_touches), ("atlas/va.sizes", Rows.laid_atlas_va_sizes), ("math/bits.deBruijn64tab", Rows.laid_math_bits_deBruijn64tab), ("atlas/fence.asks", Rows.laid_atlas_fence_asks), ("atlas/script.twos", Rows.laid_atlas_script_twos), ("atlas/script.ones", Rows.laid_atlas_script_ones)]
abbrev laidPlain : List (String × DataW Unit) := [("atlas/cause.causes", Rows.laid_atlas_cause_causes), ("atlas/plru.touches", Rows.laid_atlas_plru_touches), ("atlas/va.sizes", Rows.laid_atlas_va_sizes), ("math/bits.deBruijn64tab", Rows.laid_math_bits_deBruijn64tab), ("atlas/script.twos", Rows.laid_atlas_script_twos), ("atlas/script.ones", Rows.laid_atlas_script_ones)]
theorem own : ownKnob Tryz.prog.godebug = none := by kernel_rfl
theorem laidOut : laidOutB Tryz.prog = true := by kernel_rfl
theorem g0 : Tryz.prog.globalNamed "atlas/va.sizes" = some 0 := by kernel_rfl
theorem g1 : Tryz.prog.globalNamed "math/bits.deBruijn64tab" = some 1 := by kernel_rfl
theorem g2 : Tryz.prog.globalNamed "atlas/script.twos" = some 2 := by kernel_rfl
theorem g3 : Tryz.prog.globalNamed "atlas/script.ones" = some 3 := by kernel_rfl
theorem g4 : Tryz.prog.globalNamed "atlas/fence.asks" = some 4 := by kernel_rfl
theorem g5 : Tryz.prog.globalNamed "atlas/cause.causes" = some 5 := by kernel_rfl
theorem g6 : Tryz.prog.globalNamed "atlas/perm.asks" = some 6 := by kernel_rfl
theorem g7 : Tryz.prog.globalNamed "atlas/plru.touches" = some 7 := by kernel_rfl
theorem t0 : (Tryz.prog.globals[0]?).map (·.type) = some 186 := by kernel_rfl
theorem t1 : (Tryz.prog.globals[1]?).map (·.type) = some 227 := by kernel_rfl
theorem t2 : (Tryz.prog.globals[2]?).map (·.type) = some 236 := by kernel_rfl
theorem t3 : (Tryz.prog.globals[3]?).map (·.type) = some 236 := by kernel_rfl
theorem t4 : (Tryz.prog.globals[4]?).map (·.type) = some 307 := by kernel_rfl
theorem t5 : (Tryz.prog.globals[5]?).map (·.type) = some 312 := by kernel_rfl
theorem t6 : (Tryz.prog.globals[6]?).map (·.type) = some 319 := by kernel_rfl
theorem t7 : (Tryz.prog.globals[7]?).map (·.type) = some 328 := by kernel_rfl
theorem door_met (os : Os) (args : Array Value) : laidMetH Tryz.prog laidAll ((World.doorLaid Tryz.prog 56 os).forCall (fun _ _ => 0) ⟨#[], args, []⟩).memory :=
 laidMetH_of_parts3 (fuel := 8) (laidMet_of_run' 8 kr kr) kr kr
theorem block_of_var {P : Program} {W : World} {n : String} {g : Nat} {cs : Array Value} (hg : P.globalNamed n = some g) (hv : W.var? P n = some cs) : ∃ t fr, W.heap[g]? = some (.cells cs t fr) := by
 simp only [World.var?, hg, Option.bind_some] at hv
 split at hv
 · rename_i c t fr hh
   obtain rfl := Option.some.inj hv
   exact ⟨_, _, hh⟩
 · cases hv
variable {H : Type} {enc : TypeId × Value → H} {W : World} {base : Nat} {sp : Nat → Bool} {held : Bool} {fuel : Nat} {cs : List Value} {p : List MemPlace}
theorem causes9 (h : DataW.trod enc Tryz.prog W base sp held fuel 312 cs = some (Rows.laid_atlas_cause_causes, p)) : cs = [.int .i64 0, .int .i64 4, .int .i64 6, .int .i64 1, .int .i64 5, .int .i64 7, .int .i64 12, .int .i64 13, .int .i64 15] := by
 obtain ⟨xs, m, rfl, hx, hlen, hn, hel⟩ := DataW.trod_array Tryz.underlying312 h
 rw [show Tryz.prog.cellsOf 312 = 9 by kernel_rfl] at hlen
 simp only [Rows.laid_atlas_cause_causes, Prod.mk.injEq, DataW.agg.injEq] at hx
 match xs, hn, hx, hel with
 | [(y0, p0), (y1, p1), (y2, p2)], _, hx, hel =>
  match cs, hlen, hel with
  | [v0, v1, v2, v3, v4, v5, v6, v7, v8], _, hel =>
   have c3 : Tryz.prog.cellsOf 311 = 3 := by kernel_rfl
   have cI : Tryz.prog.cellsOf 3 = 1 := by kernel_rfl
   have h0 := hel 0 kc
   have h1 := hel 1 kc
   have h2 := hel 2 kc
   rw [c3] at h0 h1 h2
   simp only [List.map_cons, List.map_nil, List.cons.injEq, and_true] at hx
   obtain ⟨⟨rfl, rfl, rfl⟩, _⟩ := hx
   have q0 := Lib.cells_of_tab (zs := [0, 4, 6]) Tryz.underlying311 Tryz.underlying3 cI c3 (show DataW.trod _ _ _ _ _ _ _ _ [v0, v1, v2] = some (Lib.tabData .i64 [0, 4, 6], p0) from h0)
   have q1 := Lib.cells_of_tab (zs := [1, 5, 7]) Tryz.underlying311 Tryz.underlying3 cI c3 (show DataW.trod _ _ _ _ _ _ _ _ [v3, v4, v5] = some (Lib.tabData .i64 [1, 5, 7], p1) from h1)
   have q2 := Lib.cells_of_tab (zs := [12, 13, 15]) Tryz.underlying311 Tryz.underlying3 cI c3 (show DataW.trod _ _ _ _ _ _ _ _ [v6, v7, v8] = some (Lib.tabData .i64 [12, 13, 15], p2) from h2)
   simp only [List.map_cons, List.map_nil, List.cons.injEq, and_true] at q0 q1 q2
   obtain ⟨rfl, rfl, rfl⟩ := q0
   obtain ⟨rfl, rfl, rfl⟩ := q1
   obtain ⟨rfl, rfl, rfl⟩ := q2
   rfl
/-- Two bytes, a struct. -/
theorem two8 {a b : Int} {u v : Value} {n : Nat} (h : DataW.trod enc Tryz.prog W base sp held n 327 [u, v] = some (.agg [.lit (.int .u8 a), .lit (.int .u8 b)], p)) : u = .int .u8 a ∧ v = .int .u8 b := by
 obtain ⟨y0, y1, m, hx, _, h0, h1⟩ := trod_struct2 Tryz.underlying327 h
 have cI : Tryz.prog.cellsOf 5 = 1 := by kernel_rfl
 simp only [cI] at h0 h1
 obtain ⟨k0, e0, f0, _⟩ := DataW.trod_int Tryz.underlying5 (show DataW.trod _ _ _ _ _ _ _ _ [u] = some y0 from h0)
 obtain ⟨k1, e1, f1, _⟩ := DataW.trod_int Tryz.underlying5 (show DataW.trod _ _ _ _ _ _ _ _ [v] = some y1 from h1)
 subst f0 f1
 simp only [Prod.mk.injEq, DataW.agg.injEq, List.cons.injEq, DataW.lit.injEq, Lit.int.injEq, and_true, true_and] at hx e0 e1
 obtain ⟨⟨rfl, rfl⟩, _⟩ := hx
 exact ⟨e0, e1⟩
theorem touches8 (h : DataW.trod enc Tryz.prog W base sp held fuel 328 cs = some (Rows.laid_atlas_plru_touches, p)) : cs = [.int .u8 3, .int .u8 0, .int .u8 1, .int .u8 2, .int .u8 4, .int .u8 1, .int .u8 0, .int .u8 5] := by
 obtain ⟨xs, m, rfl, hx, hlen, hn, hel⟩ := DataW.trod_array Tryz.underlying328 h
 rw [show Tryz.prog.cellsOf 328 = 8 by kernel_rfl] at hlen
 simp only [Rows.laid_atlas_plru_touches, Prod.mk.injEq, DataW.agg.injEq] at hx
 match xs, hn, hx, hel with
 | [(y0, p0), (y1, p1), (y2, p2), (y3, p3)], _, hx, hel =>
  match cs, hlen, hel with
  | [v0, v1, v2, v3, v4, v5, v6, v7], _, hel =>
   have c2 : Tryz.prog.cellsOf 327 = 2 := by kernel_rfl
   have h0 := hel 0 kc
   have h1 := hel 1 kc
   have h2 := hel 2 kc
   have h3 := hel 3 kc
   rw [c2] at h0 h1 h2 h3
   simp only [List.map_cons, List.map_nil, List.cons.injEq, and_true] at hx
   obtain ⟨⟨rfl, rfl, rfl, rfl⟩, _⟩ := hx
   obtain ⟨rfl, rfl⟩ := two8 (show DataW.trod _ _ _ _ _ _ _ _ [v0, v1] = some (_, p0) from h0)
   obtain ⟨rfl, rfl⟩ := two8 (show DataW.trod _ _ _ _ _ _ _ _ [v2, v3] = some (_, p1) from h1)
   obtain ⟨rfl, rfl⟩ := two8 (show DataW.trod _ _ _ _ _ _ _ _ [v4, v5] = some (_, p2) from h2)
   obtain ⟨rfl, rfl⟩ := two8 (show DataW.trod _ _ _ _ _ _ _ _ [v6, v7] = some (_, p3) from h3)
   rfl
theorem cells_u64 (t : Nat) (n : Nat) (zs : List Int) (hn : zs.length = n) (ht : Tryz.prog.underlying t = some (.array n 27)) (hc : Tryz.prog.cellsOf t = n) (h : DataW.trod enc Tryz.prog W base sp held fuel t cs = some (Lib.tabData .u64 zs, p)) : cs = zs.map (Value.int .u64) := by
 subst hn
 exact Lib.cells_of_tab (zs := zs) ht Tryz.underlying27 kr hc h
theorem asks3 {W : World} (h : funcsAt Tryz.prog W "atlas/perm.asks" (.agg [.iface "func" (.lit (.string [97, 116, 108, 97, 115, 47, 112, 101, 114, 109, 46, 97, 115, 107, 115, 36, 49])), .iface "func" (.lit (.string [97, 116, 108, 97, 115, 47, 112, 101, 114, 109, 46, 97, 115, 107, 115, 36, 50])), .iface "func" (.lit (.string [97, 116, 108, 97, 115, 47, 112, 101, 114, 109, 46, 97, 115, 107, 115, 36, 51]))])) :
 ∃ T fr, W.heap[6]? = some (.cells #[.func (.func 266) #[] #[], .func (.func 267) #[] #[], .func (.func 268) #[] #[]] T fr) := by
 obtain ⟨g, t, cs, fuel, p, hg, ht, hv, hd⟩ := h
 obtain rfl := Option.some.inj (g6.symm.trans hg)
 obtain rfl := Option.some.inj (t6.symm.trans ht)
 obtain ⟨cs⟩ := cs
 have hd' : DataW.trod (funcToken Tryz.prog) Tryz.prog W 0 (fun _ => true) true fuel 319 cs = some (.agg [.held [97, 116, 108, 97, 115, 47, 112, 101, 114, 109, 46, 97, 115, 107, 115, 36, 49], .held [97, 116, 108, 97, 115, 47, 112, 101, 114, 109, 46, 97, 115, 107, 115, 36, 50], .held [97, 116, 108, 97, 115, 47, 112, 101, 114, 109, 46, 97, 115, 107, 115, 36, 51]], p) := hd
 obtain ⟨xs, m, rfl, hx, hlen, hn, hel⟩ := DataW.trod_array Tryz.underlying319 hd'
 rw [show Tryz.prog.cellsOf 319 = 3 by kernel_rfl] at hlen
 simp only [Prod.mk.injEq, DataW.agg.injEq] at hx
 match xs, hn, hx, hel with
 | [(y0, p0), (y1, p1), (y2, p2)], _, hx, hel =>
  match cs, hlen, hel with
  | [v0, v1, v2], _, hel =>
   have h0 := hel 0 kc
   have h1 := hel 1 kc
   have h2 := hel 2 kc
   rw [show Tryz.prog.cellsOf 165 = 1 by kernel_rfl] at h0 h1 h2
   simp only [List.map_cons, List.map_nil, List.cons.injEq, and_true] at hx
   obtain ⟨⟨rfl, rfl, rfl⟩, _⟩ := hx
   obtain rfl := func_of_trod (f0 := 266) Tryz.underlying165 kr (show DataW.trod _ _ _ _ _ _ _ _ [v0] = some (_, p0) from h0)
   obtain rfl := func_of_trod (f0 := 267) Tryz.underlying165 kr (show DataW.trod _ _ _ _ _ _ _ _ [v1] = some (_, p1) from h1)
   obtain rfl := func_of_trod (f0 := 268) Tryz.underlying165 kr (show DataW.trod _ _ _ _ _ _ _ _ [v2] = some (_, p2) from h2)
   exact block_of_var g6 hv
theorem asks2 {W : World} (h : funcsAt Tryz.prog W "atlas/fence.asks" (.slice [.iface "func" (.lit (.string [40, 97, 116, 108, 97, 115, 47, 102, 101, 110, 99, 101, 46, 102, 111, 114, 109, 41, 46, 97, 100, 100, 114])), .iface "func" (.lit (.string [40, 97, 116, 108, 97, 115, 47, 102, 101, 110, 99, 101, 46, 102, 111, 114, 109, 41, 46, 97, 115, 105, 100]))] [])) :
 ∃ T fr b o cap cs T' fr', W.heap[4]? = some (.cells #[.slice (some ⟨b, o, none⟩) 2 cap] T fr) ∧ W.heap[b]? = some (.cells cs T' fr') ∧ cs[o]? = some (.func (.func 263) #[] #[]) ∧ cs[o + 1]? = some (.func (.func 265) #[] #[]) := by
 obtain ⟨g, t, cs, fuel, p, hg, ht, hv, hd⟩ := h
 obtain rfl := Option.some.inj (g4.symm.trans hg)
 obtain rfl := Option.some.inj (t4.symm.trans ht)
 obtain ⟨cs⟩ := cs
 have hd' : DataW.trod (funcToken Tryz.prog) Tryz.prog W 0 (fun _ => true) true fuel 307 cs = some (.slice [.held [40, 97, 116, 108, 97, 115, 47, 102, 101, 110, 99, 101, 46, 102, 111, 114, 109, 41, 46, 97, 100, 100, 114], .held [40, 97, 116, 108, 97, 115, 47, 102, 101, 110, 99, 101, 46, 102, 111, 114, 109, 41, 46, 97, 115, 105, 100]] [], p) := hd
 obtain ⟨a, cap, hcs, _, hel⟩ := open_row Tryz.underlying307 kr hd'
 obtain ⟨v0, n0, q0, hc0, hr0⟩ := hel 0 _ rfl
 obtain ⟨v1, n1, q1, hc1, hr1⟩ := hel 1 _ rfl
 obtain rfl := func_of_trod (f0 := 263) Tryz.underlying308 kr hr0
 obtain rfl := func_of_trod (f0 := 265) Tryz.underlying308 kr hr1
 obtain ⟨b, off, spot⟩ := a
 have hspot : spot = none := by simpa [Addr.add] using World.cell?_spot hc0
 subst hspot hcs
 obtain ⟨T, fr, hh⟩ := block_of_var g4 hv
 have c0 : W.cell? ⟨b, off, none⟩ = some (.func (.func 263) #[] #[]) := by simpa [Addr.add] using hc0
 have c1 : W.cell? ⟨b, off + 1, none⟩ = some (.func (.func 265) #[] #[]) := by simpa [Addr.add] using hc1
 simp only [World.cell?] at c0 c1
 cases hb : W.heap[b]? with
 | none => rw [hb] at c0; simp at c0
 | some ob =>
  rw [hb] at c0 c1
  cases ob <;> simp at c0 c1
  rename_i cs' T' fr'
  exact ⟨T, fr, b, off, cap, cs', T', fr', hh, hb, c0, c1⟩
/-- What the condition gives the walks. -/
theorem of_laid {W : World} (h : laidMetH Tryz.prog laidAll W) : Ld W := by
 have ha := asks2 (h.funcs (n := "atlas/fence.asks") (by simp [laidAll, Rows.laid_atlas_fence_asks]))
 have hp := asks3 (h.funcs (n := "atlas/perm.asks") (by simp [laidAll, Rows.laid_atlas_perm_asks]))
 have h' : laidMet Tryz.prog laidPlain W := (show laidMet Tryz.prog laidPlain W ∧ handlesMet Tryz.prog _ W from h).1
 obtain ⟨ps, ⟨a0, b0, cs0, f0, p0, q0, hg0, ht0, hv0, hd0, ⟨a1, b1, cs1, f1, p1, q1, hg1, ht1, hv1, hd1, ⟨a2, b2, cs2, f2, p2, q2, hg2, ht2, hv2, hd2, ⟨a3, b3, cs3, f3, p3, q3, hg3, ht3, hv3, hd3, ⟨a4, b4, cs4, f4, p4, q4, hg4, ht4, hv4, hd4, ⟨a5, b5, cs5, f5, p5, q5, hg5, ht5, hv5, hd5, _, _⟩, _⟩, _⟩, _⟩, _⟩, _⟩, _, _⟩ := h'
 obtain rfl := Option.some.inj (g5.symm.trans hg0)
 obtain rfl := Option.some.inj (g7.symm.trans hg1)
 obtain rfl := Option.some.inj (g0.symm.trans hg2)
 obtain rfl := Option.some.inj (g1.symm.trans hg3)
 obtain rfl := Option.some.inj (g2.symm.trans hg4)
 obtain rfl := Option.some.inj (g3.symm.trans hg5)
 obtain rfl := Option.some.inj (t5.symm.trans ht0)
 obtain rfl := Option.some.inj (t7.symm.trans ht1)
 obtain rfl := Option.some.inj (t0.symm.trans ht2)
 obtain rfl := Option.some.inj (t1.symm.trans ht3)
 obtain rfl := Option.some.inj (t2.symm.trans ht4)
 obtain rfl := Option.some.inj (t3.symm.trans ht5)
 obtain ⟨l0⟩ := cs0
 obtain ⟨l1⟩ := cs1
 obtain ⟨l2⟩ := cs2
 obtain ⟨l3⟩ := cs3
 obtain ⟨l4⟩ := cs4
 obtain ⟨l5⟩ := cs5
 have e0 := causes9 hd0
 have e1 := touches8 hd1
 have e2 := cells_u64 186 3 [4096, 2097152, 1073741824] rfl Tryz.underlying186 kr hd2
 have e3 := Lib.cells_of_tab (zs := deb.map fun n : Nat => (n : Int)) Tryz.underlying227 Tryz.underlying5 kr kr (show DataW.trod _ _ _ _ _ _ _ _ l3 = some (Lib.tabData .u8 (deb.map fun n : Nat => (n : Int)), p3) from hd3)
 have e4 := cells_u64 236 4 [0, 1, 510, 511] rfl Tryz.underlying236 kr hd4
 have e5 := cells_u64 236 4 [0, 1, 2, 511] rfl Tryz.underlying236 kr hd5
 simp only at e0 e1 e2
 subst e0 e1 e2 e3 e4 e5
 exact ⟨block_of_var hg2 hv2, by have := block_of_var hg3 hv3; rw [List.map_map] at this; exact this, block_of_var hg4 hv4, block_of_var hg5 hv5, ha, block_of_var hg0 hv0, hp, block_of_var hg1 hv1⟩
end Lay
end Go.Proofs.YtfkmcdkncmapmaaGreatDoor
set_option linter.unusedVariables false
set_option linter.unusedSimpArgs false
namespace Go.Proofs.YtfkmcdkncmapmaaGreatDoor.SX
open Go Go.RowKit
section
variable {P : Program} {w : World}
def semIdx (T : TypeId) (x i : Value) : Sem Next := do
 let v ← Instr.indexAt T x i
 pure (.value v)
def semLoad (T : TypeId) (a : Value) : Sem Next := do
 let v ← Instr.loadAt T a
 pure (.value v)
theorem add_eq (b o n : Nat) : (⟨b, o, none⟩ : Addr).add n = ⟨b, o + n, none⟩ := by
 unfold Addr.add; split
 · rename_i h; subst h; rfl
 · rfl
theorem run_und {t : TypeId} {d : TypeDesc} (h : P.underlying t = some d) : (underlying t).run P w = .ok d w := by
 simp [underlying, program, Sem.run, h]
theorem run_size {t : TypeId} {i : TypeInfo} (h : P.info? t = some i) : (sizeOf t).run P w = .ok i.size w := by
 unfold sizeOf typeInfo
 simp only [Sem.run_bind, program]
 show (Result.andThen ((match P.info? t with | some i => _ | none => _ : Sem TypeInfo).run P w) _) = _
 rw [h]; rfl
theorem run_idx_slice {T E : TypeId} {sz : Nat} {k : IntKind} {b off len cap : Nat} {i : Nat} (hu : P.underlying T = some (.slice E)) (hs : (sizeOf E).run P w = .ok sz w) (hi : i < len) :
 (semIdx T (.slice (some ⟨b, off, none⟩) len cap) (.int k (i : Int))).run P w = .ok (.value (.pointer (some ⟨b, off + i * sz, none⟩))) w := by
 unfold semIdx Instr.indexAt
 simp only [Sem.run_bind, asIntOf, Sem.run_pure, Result.andThen_ok, run_und hu]
 have h1 : (0 : Int) ≤ (i : Int) ∧ (i : Int) < (len : Int) := ⟨Int.natCast_nonneg _, Int.ofNat_lt.2 hi⟩
 simp only [if_pos h1, Sem.run_bind, hs, Result.andThen_ok, Sem.run_pure, Int.toNat_natCast, add_eq]
theorem run_idx_array {T E : TypeId} {sz n : Nat} {k : IntKind} {b off : Nat} {i : Nat} (hu : P.underlying T = some (.array n E)) (hs : (sizeOf E).run P w = .ok sz w) (hi : i < n) :
 (semIdx T (.pointer (some ⟨b, off, none⟩)) (.int k (i : Int))).run P w = .ok (.value (.pointer (some ⟨b, off + i * sz, none⟩))) w := by
 unfold semIdx Instr.indexAt
 simp only [Sem.run_bind, asIntOf, Sem.run_pure, Result.andThen_ok, run_und hu, Instr.sureAddr]
 have h1 : (0 : Int) ≤ (i : Int) ∧ (i : Int) < (n : Int) := ⟨Int.natCast_nonneg _, Int.ofNat_lt.2 hi⟩
 simp only [if_pos h1, Sem.run_bind, hs, Result.andThen_ok, Sem.run_pure, Int.toNat_natCast, add_eq]
theorem run_load1 {T : TypeId} {b o : Nat} {v : Value} (hg : (isAgg T).run P w = .ok false w) (hc : w.cell? ⟨b, o, none⟩ = some v) :
 (semLoad T (.pointer (some ⟨b, o, none⟩))).run P w = .ok (.value v) w := by
 unfold semLoad Instr.loadAt loadVar
 simp only [Sem.run_bind, Instr.sureAddr, Sem.run_pure, Result.andThen_ok, hg, Bool.false_eq_true, if_false, run_load, hc]
theorem run_loadCells {b o : Nat} : ∀ (vs : List Value) (i : Nat) (acc : Array Value), (∀ k (h : k < vs.length), w.cell? ⟨b, o + i + k, none⟩ = some vs[k]) → (loadCellsFrom ⟨b, o, none⟩ i vs.length acc).run P w = .ok (acc ++ vs.toArray) w
 | [], i, acc, _ => by simp [loadCellsFrom]
 | v :: vs, i, acc, h => by
  have h0 : w.cell? ⟨b, o + i, none⟩ = some v := h 0 (by simp)
  have ih := run_loadCells vs (i + 1) (acc.push v) (fun k hk => by
   have := h (k + 1) (by simpa using hk)
   rw [show o + i + (k + 1) = o + (i + 1) + k by omega] at this
   simpa using this)
  simp only [List.length_cons, loadCellsFrom, Sem.run_bind, add_eq, run_load, h0, Result.andThen_ok, ih]
  simp
theorem run_loadN {T : TypeId} {b o : Nat} (vs : List Value) (hg : (isAgg T).run P w = .ok true w) (hs : (sizeOf T).run P w = .ok vs.length w) (hc : ∀ k (h : k < vs.length), w.cell? ⟨b, o + k, none⟩ = some vs[k]) :
 (semLoad T (.pointer (some ⟨b, o, none⟩))).run P w = .ok (.value (.agg vs.toArray)) w := by
 have := run_loadCells (P := P) (w := w) (b := b) (o := o) vs 0 #[] (fun k hk => hc k hk)
 unfold semLoad Instr.loadAt loadVar
 simp only [Sem.run_bind, Instr.sureAddr, Sem.run_pure, Result.andThen_ok, hg, if_true, hs, loadCells, this]
 simp
theorem cell_of {b o : Nat} {cs : Array Value} {T : TypeId} {fr : Nat × Nat} {v : Value} (h : w.heap[b]? = some (.cells cs T fr)) (hv : cs[o]? = some v) : w.cell? ⟨b, o, none⟩ = some v := by
 simp only [World.cell?, h]; simpa using hv
/-! ### Slices -/
theorem SlAt.len {no : List Nat} {s : Sl} {sz : Nat} {ys : List Value} (h : SlAt w no s sz ys) : ys.length = s.n * sz := by
 rcases h with ⟨rfl, rfl⟩ | ⟨b, off, cs, E, fr, ha, hb, _, hl, _⟩
 · simp
 · exact hl
theorem SlAt.le {no : List Nat} {s : Sl} {sz : Nat} {ys : List Value} (h : SlAt w no s sz ys) : s.n ≤ s.c := by
 rcases h with ⟨rfl, rfl⟩ | ⟨b, off, cs, E, fr, ha, hb, _, hl, hc, _⟩
 · simp
 · exact hc
theorem SlAt.some {no : List Nat} {s : Sl} {sz : Nat} {ys : List Value} (h : SlAt w no s sz ys) (hn : s.n ≠ 0) : s.a = .some ⟨s.blk, s.off, none⟩ := by
 rcases h with ⟨rfl, rfl⟩ | ⟨b, off, cs, E, fr, ha, hb, _, hl, hc, _⟩
 · exact absurd rfl hn
 · simp [Sl.blk, Sl.off, ha]
/-- A slice's cell. -/
theorem SlAt.cell {no : List Nat} {s : Sl} {sz : Nat} {ys : List Value} (h : SlAt w no s sz ys) {i : Nat} (hi : i < ys.length) : w.cell? ⟨s.blk, s.off + i, none⟩ = .some ys[i] := by
 rcases h with ⟨rfl, rfl⟩ | ⟨b, off, cs, E, fr, ha, hb, _, hl, hc, hcs⟩
 · cases hi
 · simp only [Sl.blk, Sl.off, ha, Option.map_some, Option.getD_some]; exact cell_of hb (hcs i hi)
theorem run_idx {no : List Nat} {s : Sl} {sz : Nat} {ys : List Value} (h : SlAt w no s sz ys) {T E : TypeId} {k : IntKind} {i : Nat} (hu : P.underlying T = .some (.slice E)) (hs : (sizeOf E).run P w = .ok sz w) (hi : i < s.n) :
 (semIdx T s.v (.int k (i : Int))).run P w = .ok (.value (.pointer (.some ⟨s.blk, s.off + i * sz, none⟩))) w := by
 rw [Sl.v, h.some ko]
 exact run_idx_slice hu hs hi
/-- An element of a row of elements. -/
theorem flat_get {α : Type} (f : α → List Value) (sz : Nat) (hf : ∀ x, (f x).length = sz) : ∀ (l : List α) (i k : Nat) (x : α), l[i]? = .some x → k < sz → (l.flatMap f)[i * sz + k]? = (f x)[k]?
 | [], i, k, x, h, _ => by simp at h
 | y :: l, 0, k, x, h, hk => by
  simp at h; subst h
  rw [List.flatMap_cons, List.getElem?_append_left (by rw [hf]; omega)]; simp
 | y :: l, i + 1, k, x, h, hk => by
  simp at h
  rw [List.flatMap_cons, List.getElem?_append_right (by rw [hf, Nat.add_mul]; omega), hf]
  rw [show (i + 1) * sz + k - sz = i * sz + k by rw [Nat.add_mul]; omega]
  exact flat_get f sz hf l i k x h hk
theorem flat_len {α : Type} (f : α → List Value) (sz : Nat) (hf : ∀ x, (f x).length = sz) (l : List α) : (l.flatMap f).length = l.length * sz := by
 induction l with
 | nil => simp
 | cons x l ih => simp [List.flatMap_cons, hf, ih, Nat.add_mul]; omega
theorem SlAt.elem {α : Type} {f : α → List Value} {sz : Nat} (hf : ∀ x, (f x).length = sz) {no : List Nat} {s : Sl} {l : List α} (h : SlAt w no s sz (l.flatMap f)) {i : Nat} {x : α} (hx : l[i]? = .some x) {k : Nat} (hk : k < (f x).length) :
 w.cell? ⟨s.blk, s.off + i * sz + k, none⟩ = .some (f x)[k] := by
 have hk' : k < sz := by rw [← hf x]; exact hk
 have h1 := flat_get f sz hf l i k x hx hk'
 rw [List.getElem?_eq_getElem hk] at h1
 obtain ⟨hlt, he⟩ := List.getElem?_eq_some_iff.1 h1
 rw [Nat.add_assoc, h.cell hlt, he]
theorem SlAt.part {α : Type} {f : α → List Value} {sz : Nat} (hf : ∀ x, (f x).length = sz) {no : List Nat} {s : Sl} {l : List α} (h : SlAt w no s sz (l.flatMap f)) {i : Nat} {x : α} (hx : l[i]? = .some x) {vs : List Value} (off : Nat) (hvs : ((f x).drop off).take vs.length = vs) (hfit : off + vs.length ≤ sz) (k : Nat) (hk : k < vs.length) :
 w.cell? ⟨s.blk, s.off + i * sz + off + k, none⟩ = .some vs[k] := by
 have hk2 : off + k < (f x).length := by rw [hf]; omega
 have := h.elem hf hx hk2
 rw [Nat.add_assoc (s.off + i * sz), this]
 congr 1
 have h3 : (((f x).drop off).take vs.length)[k]? = vs[k]? := by rw [hvs]
 rw [List.getElem?_take_of_lt hk, List.getElem?_drop, List.getElem?_eq_getElem hk2, List.getElem?_eq_getElem hk] at h3
 exact Option.some.inj h3
theorem SlAt.count {α : Type} {f : α → List Value} {sz : Nat} (hf : ∀ x, (f x).length = sz) (hz : 0 < sz) {no : List Nat} {s : Sl} {l : List α} (h : SlAt w no s sz (l.flatMap f)) : s.n = l.length := by
 have h1 := h.len
 rw [flat_len f sz hf] at h1
 exact (Nat.eq_of_mul_eq_mul_right hz h1).symm
theorem get_of_lt {α : Type} {l : List α} {i : Nat} (h : i < l.length) : ∃ x, l[i]? = .some x := ⟨l[i], List.getElem?_eq_getElem h⟩
/-- A part of a slice. -/
def Sl.sub (s : Sl) (sz l h : Nat) : Sl := ⟨if s.c = l then s.a else s.a.map (·.add (l * sz)), h - l, s.c - l⟩
def semSlice (T : TypeId) (x : Value) (lo hi mx : Option Value) : Sem Next := do
 let v ← Instr.sliceAt T x lo hi mx
 pure (.value v)
def semB (s : Sem Value) : Sem Next := do
 let v ← s
 pure (.value v)
theorem run_semB {s : Sem Value} {v : Value} {w' : World} (h : s.run P w = .ok v w') : (semB s).run P w = .ok (.value v) w' := by
 simp only [semB, Sem.run_bind, h, Result.andThen_ok, Sem.run_pure]
theorem run_sub (s : Sl) {T E : TypeId} {sz : Nat} (hu : P.underlying T = .some (.slice E)) (hs : (sizeOf E).run P w = .ok sz w) {k k' : IntKind} (l h : Nat) (h1 : l ≤ h) (h2 : h ≤ s.c) :
 (semSlice T s.v (.some (.int k (l : Int))) (.some (.int k' (h : Int))) none).run P w = .ok (.value (s.sub sz l h).v) w := by
 unfold semSlice Instr.sliceAt Instr.slice
 have e1 : (0 : Int) ≤ (h : Int) ∧ (h : Int) ≤ (s.c : Int) := ⟨Int.natCast_nonneg _, Int.ofNat_le.2 h2⟩
 have e2 : (0 : Int) ≤ (l : Int) ∧ (l : Int) ≤ (h : Int) := ⟨Int.natCast_nonneg _, Int.ofNat_le.2 h1⟩
 simp only [Sem.run_bind, run_und hu, Result.andThen_ok, Instr.sliceBounds, Instr.sliceBound, asIntOf, Sem.run_pure, if_pos e1, if_pos e2, hs, Int.toNat_natCast, Sl.sub]
theorem run_subH (s : Sl) {T E : TypeId} {sz : Nat} (hu : P.underlying T = .some (.slice E)) (hs : (sizeOf E).run P w = .ok sz w) {k' : IntKind} (h : Nat) (h2 : h ≤ s.c) :
 (semSlice T s.v none (.some (.int k' (h : Int))) none).run P w = .ok (.value (s.sub sz 0 h).v) w := by
 unfold semSlice Instr.sliceAt Instr.slice
 have e1 : (0 : Int) ≤ (h : Int) ∧ (h : Int) ≤ (s.c : Int) := ⟨Int.natCast_nonneg _, Int.ofNat_le.2 h2⟩
 simp only [Sem.run_bind, run_und hu, Result.andThen_ok, Instr.sliceBounds, Instr.sliceBound, asIntOf, Sem.run_pure, if_pos e1, hs, Int.toNat_natCast, Sl.sub]
theorem run_subL (s : Sl) {T E : TypeId} {sz : Nat} (hu : P.underlying T = .some (.slice E)) (hs : (sizeOf E).run P w = .ok sz w) {k' : IntKind} (l : Nat) (h2 : l ≤ s.n) :
 (semSlice T s.v (.some (.int k' (l : Int))) none none).run P w = .ok (.value (s.sub sz l s.n).v) w := by
 unfold semSlice Instr.sliceAt Instr.slice
 have e1 : (0 : Int) ≤ (l : Int) ∧ (l : Int) ≤ (s.n : Int) := ⟨Int.natCast_nonneg _, Int.ofNat_le.2 h2⟩
 simp only [Sem.run_bind, run_und hu, Result.andThen_ok, Instr.sliceBounds, Instr.sliceBound, asIntOf, Sem.run_pure, if_pos e1, hs, Int.toNat_natCast, Sl.sub, Option.isSome_none, Bool.false_eq_true, if_false]
theorem SlAt.sub {no : List Nat} {s : Sl} {sz : Nat} {ys : List Value} (hs : SlAt w no s sz ys) (l h : Nat) (h1 : l ≤ h) (h2 : h ≤ s.n) : SlAt w no (s.sub sz l h) sz ((ys.drop (l * sz)).take ((h - l) * sz)) := by
 have hlen := hs.len
 rcases hs with ⟨rfl, rfl⟩ | ⟨b, off, cs, E, fr, ha, hb, hn, hl, hc, hcs⟩
 · simp only [Nat.le_zero_eq] at h2; subst h2; simp only [Nat.le_zero_eq] at h1; subst h1
   exact .inl ⟨rfl, by simp⟩
 · have hll : ((ys.drop (l * sz)).take ((h - l) * sz)).length = (h - l) * sz := by
     rw [List.length_take, List.length_drop, hl, Nat.min_eq_left]
     rw [← Nat.sub_mul]; exact Nat.mul_le_mul_right _ ko
   by_cases he : s.c = l
   · refine .inr ⟨b, off, cs, E, fr, by simp [Sl.sub, he, ha], hb, hn, hll, by simp [Sl.sub]; omega, fun i hi => ?_⟩
     rw [hll] at hi
     have : h - l = 0 := by omega
     rw [this] at hi; omega
   · refine .inr ⟨b, off + l * sz, cs, E, fr, by simp [Sl.sub, he, ha, add_eq], hb, hn, hll, by simp only [Sl.sub]; omega, fun i hi => ?_⟩
     have hi' := hi; rw [hll] at hi'
     have hb : l * sz + i < ys.length := by
      rw [hl]; have : h * sz ≤ s.n * sz := Nat.mul_le_mul_right _ h2
      have : (h - l) * sz = h * sz - l * sz := Nat.sub_mul _ _ _
      omega
     rw [Nat.add_assoc, hcs _ hb]
     simp
/-- What a slice yields to an append. -/
theorem SlAt.src {no : List Nat} {s : Sl} {sz : Nat} {ys : List Value} (hs : SlAt w no s sz ys) {tx e' : TypeId} (hk : P.underlying tx = .some (.slice e')) (h1 : ∀ u ∈ ys, u.oneCell' = true) : Src P sz tx s.v s.n ys w := by
 have hsc := @SlAt.cell w no s sz ys hs
 by_cases hn : s.n = 0
 · have hy : ys = [] := List.eq_nil_of_length_eq_zero (by rw [hs.len, hn]; simp)
   rcases hs with ⟨rfl, rfl⟩ | ⟨b, off, cs, E, fr, ha, _⟩
   · exact Src.ofNil w hk 0
   · subst hy
     have := Src.ofSlice (P := P) w (size := sz) hk ⟨b, off, none⟩ 0 s.c [] (by simp) (by simp) (by simp)
     rw [Sl.v, ha, hn]; exact this
 · have := Src.ofSlice (P := P) w (size := sz) hk ⟨s.blk, s.off, none⟩ s.n s.c ys hs.len (fun j u hu => by
     obtain ⟨hj, rfl⟩ := List.getElem?_eq_some_iff.1 hu
     rw [add_eq]; exact hsc hj) h1
   rw [Sl.v, hs.some hn]; exact this
end
/-- A loop by a ghost: what holds, told by a state of one's own; a measure of it. -/
theorem loopG {P : Program} {Q : Exit → Act → World → Prop} {a : Act} {w : World} {σ : Type} {c : Code} (I : σ → Act → World → Prop) (μ : σ → Nat) (s0 : σ) (h0 : I s0 a w)
 (hround : ∀ s a w, I s a w → c.wp P (Exit.then (fun a' w' => ∃ s', I s' a' w' ∧ μ s' < μ s) Q) a w) : (Code.loop c).wp P Q a w := by
 have key : ∀ n s a w, I s a w → μ s < n → Code.rounds P c Q n a w := by
  intro n
  induction n with
  | zero => intro s a w _ h; omega
  | succ n ih =>
   intro s a w hI hn
   refine wp_mono (hround s a w hI) fun x a' w' h => ?_
   cases x with
   | normal => obtain ⟨s', h1, h2⟩ := h; exact ih s' a' w' h1 ko
   | _ => exact h
 exact wp_loop_rounds (μ s0 + 1) (key _ s0 a w h0 ko)
end Go.Proofs.YtfkmcdkncmapmaaGreatDoor.SX
namespace Go.Proofs.YtfkmcdkncmapmaaGreatDoor.SX
open Go Go.RowKit
theorem jump_goto {Q : Exit → Act → World → Prop} {J : Act → World → Prop} {l : Nat} {a : Act} {w : World} (h : J a w) : Exit.jump l J Q (.goto l) a w := ⟨rfl, h⟩
section
variable {P : Program} {Q : Exit → Act → World → Prop} {a : Act} {w : World} {J : Act → World → Prop} {l : Nat}
theorem scope_n (h : Q .normal a w) : Exit.noGoto Q .normal a w := h
theorem scope_r (h : Q .ret a w) : Exit.noGoto Q .ret a w := h
theorem scope_x {i : Nat} (h : Q (.exit i) a w) : Exit.noGoto Q (.exit i) a w := h
theorem jump_n (h : Q .normal a w) : Exit.jump l J Q .normal a w := h
theorem jump_r (h : Q .ret a w) : Exit.jump l J Q .ret a w := h
theorem jump_x {i : Nat} (h : Q (.exit i) a w) : Exit.jump l J Q (.exit i) a w := h
theorem then_g {N : Act → World → Prop} {i : Nat} (h : Q (.goto i) a w) : Exit.then N Q (.goto i) a w := h
theorem blk_g {id i : Nat} (h : Q (.goto i) a w) : Exit.inBlock id Q (.goto i) a w := h
end
/-- The code behind a label. -/
def behind (c : Code) (l : Nat) : Code := (findLabel c l).getD .skip
theorem scopeG {P : Program} {Q : Exit → Act → World → Prop} {a : Act} {w : World} {σ : Type} {c : Code} (l : Nat) (I : σ → Act → World → Prop) (μ : σ → Nat) (hf0 : (findLabel c l).isSome = true)
 (first : c.wp P (Exit.jump l (fun a w => ∃ g, I g a w) Q) a w)
 (pass : ∀ g a w, I g a w → (behind c l).wp P (Exit.jump l (fun a' w' => ∃ g', I g' a' w' ∧ μ g' < μ g) Q) a w) : (Code.scope c).wp P Q a w := by
 have hf : findLabel c l = some (behind c l) := by
  obtain ⟨r, hr⟩ := Option.isSome_iff_exists.1 hf0
  rw [behind, hr]; rfl
 have least : ∀ (p : Nat → Prop) (n : Nat), p n → ∃ m, p m ∧ ∀ k, p k → m ≤ k := by
  intro p n
  induction n using Nat.strongRecOn with
  | _ n ih =>
   intro hn
   by_cases h : ∃ m, m < n ∧ p m
   · obtain ⟨m, hm, hp⟩ := h; exact ih m hm hp
   · exact ⟨n, hn, fun k hk => by
       rcases Nat.lt_or_ge k n with h' | h'
       · exact absurd ⟨k, h', hk⟩ h
       · exact h'⟩
 have hex : ∀ a w, ∃ m, (∃ g, I g a w) → (∃ g, I g a w ∧ μ g = m) ∧ ∀ g, I g a w → m ≤ μ g := by
  intro a w
  by_cases h : ∃ g, I g a w
  · obtain ⟨g, hg⟩ := h
    obtain ⟨m, hm, hle⟩ := least (fun m => ∃ g, I g a w ∧ μ g = m) (μ g) ⟨g, hg, rfl⟩
    exact ⟨m, fun _ => ⟨hm, fun g' hg' => hle _ ⟨g', hg', rfl⟩⟩⟩
  · exact ⟨0, fun h' => absurd h' h⟩
 refine wp_scope_jumps l (fun a w => ∃ g, I g a w) (fun a w => (hex a w).choose) hf first fun a w hJ => ?_
 obtain ⟨⟨g, hg, hm⟩, _⟩ := (hex a w).choose_spec hJ
 refine wp_mono (pass g a w hg) fun x a' w' h => ?_
 cases x with
 | goto l' =>
  obtain ⟨hl, g', hg', hlt⟩ := h
  refine ⟨hl, ⟨g', hg'⟩, ?_⟩
  have := ((hex a' w').choose_spec ⟨g', hg'⟩).2 g' hg'
  show (hex a' w').choose < (hex a w).choose
  omega
 | _ => exact h
end Go.Proofs.YtfkmcdkncmapmaaGreatDoor.SX
