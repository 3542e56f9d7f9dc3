/- A range over a function whose body lengthens a slice: what is the same each time. -/
import Derived.Test.YtfkmcdkncmapmaaGreatDoorY02
import Derived.Test.YtfkmcdkncmapmaaGreatDoorY04
import Derived.Laws.Bits64
import Derived.Laws.Bits64b
import Derived.Laws.Sem
set_option linter.unusedVariables false
set_option linter.unusedSimpArgs false
namespace Go.Proofs.YtfkmcdkncmapmaaGreatDoor.SX
open Go Go.RowKit
/-- An activation with more deferred calls. -/
def addD (ds : List Deferred) (a : Act) : Act := { a with defers := a.defers ++ ds }
theorem put_addD (ds : List Deferred) (a : Act) (d : Option Nat) (v : Value) : (addD ds a).put d v = addD ds (a.put d v) := by cases d <;> rfl
theorem upon_addD {P : Program} {o : Oper} {ds : List Deferred} {a : Act} {K : Act → World → Prop} {Q : Exit → Act → World → Prop} {r : Result Next}
 (h : o.upon P a (fun a w => K (addD ds a) w) (fun x a w => Q x (addD ds a) w) r) : o.upon P (addD ds a) K Q r := by
 cases r with
 | ok x w' =>
  cases x with
  | enter f args =>
   rw [Oper.upon_enter] at h ⊢
   refine Calls.mono h fun e w2 he => ?_
   cases e with
   | outgrown =>
    obtain ⟨a1, w1, h1⟩ := he
    exact ⟨_, _, h1⟩
   | returned v =>
    show K ((addD ds a).put o.dst v) w2
    rw [put_addD]
    exact he
   | panicked c => exact he
  | row r args =>
   rw [Oper.upon_row] at h ⊢
   refine Rows.mono h fun v w2 he => ?_
   rw [put_addD]
   exact he
  | value v =>
   rw [Oper.upon_value] at h ⊢
   rw [put_addD]
   exact h
  | skip =>
   rw [Oper.upon_skip] at h ⊢
   rw [put_addD]
   exact h
  | defer d =>
   rw [Oper.upon_defer] at h ⊢
   have e : ({ addD ds a with defers := d :: (addD ds a).defers } : Act).put o.dst undef = addD ds (({ a with defers := d :: a.defers } : Act).put o.dst undef) := by rw [← put_addD]; rfl
   rw [e]
   exact h
  | _ => exact h.elim
 | halt x w' =>
  cases x with
  | panic v => exact h
  | _ => exact h.elim
theorem ops_addD {P : Program} {ops : Array Oper} {ds : List Deferred} {Q : Exit → Act → World → Prop} (hnq : ¬ LetsOut fun x a w => Q x (addD ds a) w) : ∀ (l : List Nat) (a : Act) (w : World), wpOps P ops (fun x a w => Q x (addD ds a) w) l a w → wpOps P ops Q l (addD ds a) w
 | [], a, w, h => h
 | i :: l, a, w, h => by
  rw [wpOps_cons] at h ⊢
  unfold wpOp at h ⊢
  cases ho : ops[i]? with
  | none => simp only [ho] at h ⊢; exact ops_addD hnq l a w h
  | some o =>
   simp only [ho] at h ⊢
   have hw : Region.wanted o (yielded ops (addD ds a).tmps) = Region.wanted o (yielded ops a.tmps) := rfl
   rw [hw]
   split at h
   · rename_i hy
     rw [if_pos hy]
     rcases h with h | h
     · refine .inl ?_
       unfold Oper.wp at h ⊢
       have he : (addD ds a).eval = a.eval := rfl
       rw [he]
       exact upon_addD (Oper.wp_mono (fun a w h => ops_addD hnq l a w h) h)
     · exact absurd h.2 hnq
   · rename_i hy
     rw [if_neg hy]
     have := ops_addD hnq l _ w h
     cases hd : o.dst <;> simp only [hd, addD, Act.put] at this ⊢ <;> exact this
theorem enters {P : Program} {f : FuncId} {fn : Func} {c : Code} (hf : P.funcs[f]? = some fn) (hn : (fn.name == "runtime.NumGoroutine") = false) (hb : fn.body = some c) : ∀ (args : Array Value) (w : World), (callFunc f args).run P w = .ok (.enter f args) w := by
 intro args w
 have h1 : fn.name ≠ "runtime.NumGoroutine" := by simpa using hn
 simp [callFunc, hf, h1, hb, mark]
section
variable {P : Program} {Q : Exit → Act → World → Prop} {n : Nat} {e : Env} {a : Act} {w : World} {ops : Array Oper} {c : Nat} {fuel : Nat} {listed : Array Bool}
/-- One that acts, and what holds behind it told by hand. -/
theorem rawD {S : World → Prop} (i : Nat) {s : Sem Next} {v : Value} {w1 : World} (A : Agrees n a e) (hrun : s.run P w = .ok (.value v) w1) (hS : S w1) (hrd : Region.ready .any ops listed = [i]) (hf : fuel = (fuel - 1) + 1)
 (hx : operOf P ops e [i] = some s) (hd : (bindE n (dstOf ops [i]) undef e).isSome = true)
 (K : ∀ a', Agrees n a' (put1 n ops [i] v e) → wpAnyC P .any ops Q c S (fuel - 1) (listed.setIfInBounds i true) a' w1) : wpAnyC P .any ops Q c S fuel listed a w := by
 refine anyC_one hrd hf ?_
 unfold operOf at hx
 simp only at hx
 unfold wpOp
 split at hx
 · cases hx
 · rename_i o ho
   simp only [ho]
   split at hx
   · rename_i hw
     rw [wantedE_sound A hw]
     cases hc' : (isSel o.op || !List.all _ (known e)) with
     | true => rw [hc'] at hx; cases hx
     | false =>
      rw [hc'] at hx
      simp only [cond_false, Option.some.injEq] at hx
      simp only [Bool.or_eq_false_iff, Bool.not_eq_false'] at hc'
      simp only [if_true]
      refine .inl ?_
      unfold Oper.wp
      rw [execOp_env A hc'.2 (not_sel hc'.1), hx, hrun]
      have hA := bind_put A hd v
      simp only [dstOf, ho, Option.bind_some] at hA
      exact ⟨fun _ => hS, K _ hA⟩
   · cases hx
theorem rawSD {S : World → Prop} (i : Nat) {s : Sem Next} {w1 : World} (A : Agrees n a e) (hrun : s.run P w = .ok .skip w1) (hS : (listed.setIfInBounds i true).getD c false = true ∨ S w1) (hrd : Region.ready .any ops listed = [i]) (hf : fuel = (fuel - 1) + 1)
 (hx : operOf P ops e [i] = some s) (hd : (bindE n (dstOf ops [i]) undef e).isSome = true)
 (K : ∀ a', Agrees n a' (put1 n ops [i] undef e) → wpAnyC P .any ops Q c S (fuel - 1) (listed.setIfInBounds i true) a' w1) : wpAnyC P .any ops Q c S fuel listed a w := by
 refine anyC_one hrd hf ?_
 unfold operOf at hx
 simp only at hx
 unfold wpOp
 split at hx
 · cases hx
 · rename_i o ho
   simp only [ho]
   split at hx
   · rename_i hw
     rw [wantedE_sound A hw]
     cases hc' : (isSel o.op || !List.all _ (known e)) with
     | true => rw [hc'] at hx; cases hx
     | false =>
      rw [hc'] at hx
      simp only [cond_false, Option.some.injEq] at hx
      simp only [Bool.or_eq_false_iff, Bool.not_eq_false'] at hc'
      simp only [if_true]
      refine .inl ?_
      unfold Oper.wp
      rw [execOp_env A hc'.2 (not_sel hc'.1), hx, hrun]
      have hA := bind_put A hd undef
      simp only [dstOf, ho, Option.bind_some] at hA
      refine ⟨fun hcc => ?_, K _ hA⟩
      rcases hS with hS | hS
      · rw [hS] at hcc; cases hcc
      · exact hS
   · cases hx
end
/-- What stands between two rounds: the cells of boxes, the row that grows, and that nothing old has turned. -/
structure Mid (w00 : World) (no : List Nat) (fb : Boxes) (B : Nat) (T E : TypeId) (sz : Nat) (ys : List Value) (W : World) : Prop where
 below : Below w00.heap.size w00 W
 boxes : ∀ p ∈ fb, ∃ cs E' fr, p.2 = .cells cs E' fr ∧ W.heap[p.1]? = some p.2 ∧ p.1 ∈ no
 row : ∃ s : Sl, W.heap[B]? = some (.cells #[s.v] T (0, 0)) ∧ OwnRow W w00.heap.size no s E sz ys
 lt : ∀ b ∈ no, b < W.heap.size
theorem Mid.turn {w00 : World} {no : List Nat} {fb : Boxes} {B : Nat} {T E : TypeId} {sz : Nat} {ys : List Value} {W W' : World} {row : Option Nat} (h : Mid w00 no fb B T E sz ys W) (hg : W.grownBy W' row) (hr : ∀ r, row = some r → w00.heap.size ≤ r ∧ ∃ o : Obj, W.heap[r]? = some o ∧ o.isCells = false) : Mid w00 no fb B T E sz ys W' := by
 have hr' : ∀ r, row = some r → ∃ o : Obj, W.heap[r]? = some o ∧ o.isCells = false := fun r e => (hr r e).2
 refine ⟨h.below.grown hg h.below.size (fun k e => (hr k e).1), fun p hp => ?_, ?_, fun b hb => Nat.lt_of_lt_of_le (h.lt b hb) hg.size⟩
 · obtain ⟨cs, E', fr, he, hb, hn⟩ := h.boxes p hp
   exact ⟨cs, E', fr, he, by rw [he] at hb ⊢; exact cells_turn hb hg hr', hn⟩
 · obtain ⟨s, hb, ho⟩ := h.row
   exact ⟨s, cells_turn hb hg hr', ho.turn hg hr'⟩
theorem Mid.keep {w00 : World} {no : List Nat} {fb : Boxes} {B : Nat} {T E : TypeId} {sz : Nat} {ys : List Value} {W W' : World} (h : Mid w00 no fb B T E sz ys W) (hb : Below W.heap.size W W') : Mid w00 no fb B T E sz ys W' :=
 h.turn (row := none) ⟨hb.os, hb.tape, hb.output, hb.size, fun k hk _ => hb.block k hk⟩ (fun r e => by cases e)
theorem keeps_below {W W' : World} (h : Below W.heap.size W W') (B : Nat) : KeepsFrom B W W' := ⟨h.size, fun k o _ hk _ => by rw [h.block k (getElem?_lt hk)]; exact hk⟩
theorem keepK_below {L : List Nat} {n0 : Nat} {W W' : World} (h : Below W.heap.size W W') (hn : n0 ≤ W.heap.size) : KeepK L n0 W W' := ⟨h.mono hn, fun k _ o hk => by rw [h.block k (getElem?_lt hk)]; exact hk⟩
/-- **THE ROUND's END**: what has come is laid behind what there is; the slice's box is written. -/
theorem Mid.push {P : Program} {w00 : World} {no : List Nat} {fb : Boxes} {B : Nat} {T E t tx ty : TypeId} {i : TypeInfo} {z : Value} {ys : List Value} {W w1 : World} (h : Mid w00 no fb B T E i.size ys W) (hb1 : Below W.heap.size W w1)
 (hB : B ∈ no) (hBf : ∀ p ∈ fb, p.1 ≠ B) (hB0 : w00.heap.size ≤ B)
 (ht : P.underlying t = some (.slice E)) (hi : P.info? E = some i) (hz : i.zero = some z) (hzs : z.cells.size = i.size) (hb8 : 0 < i.bytes) {x : Value} {k : Nat} {news : List Value} (hs : Src P i.size tx x k news w1) (hyl : news.length = k * i.size)
 (hbig : ∀ s : Sl, OwnRow W w00.heap.size no s E i.size ys → (s.n + k) * i.bytes ≤ 140737488355328) {s : Sl} (hsb : W.heap[B]? = some (.cells #[s.v] T (0, 0))) (hso : OwnRow W w00.heap.size no s E i.size ys) :
 ∃ (s' : Sl) (w2 : World), (semB (Builtin.append_ #[t, tx] ty #[s.v, x])).run P w1 = .ok (.value s'.v) w2 ∧ (∀ p ∈ fb, w2.heap[p.1]? = some p.2) ∧ (∀ b o, (∀ c, s.a = some c → b ≠ c.block) → w1.heap[b]? = some o → w2.heap[b]? = some o) ∧ Below w00.heap.size w1 w2 ∧ w2.heap[B]? = some (.cells #[s.v] T (0, 0)) ∧
  ∀ w3 : World, w3.heap[B]? = some (.cells #[s'.v] T (0, 0)) → (∀ k o, k ≠ B → w2.heap[k]? = some o → w3.heap[k]? = some o) → Below B w2 w3 → Mid w00 no fb B T E i.size (ys ++ news) w3 ∧ (∀ D, KeepsFrom D W w3) ∧ (∀ L n0, (∀ b ∈ L, b ∈ no ∧ b ≠ B) → n0 ≤ w00.heap.size → KeepK L n0 W w3) := by
 have hkeep1 : ∀ b o, W.heap[b]? = some o → w1.heap[b]? = some o := fun b o hb => by rw [hb1.block b (getElem?_lt hb)]; exact hb
 have hso1 : OwnRow w1 w00.heap.size no s E i.size ys := hso.keep fun b o _ hb => hkeep1 b o hb
 obtain ⟨s', w2, hrun, hrow, hn, hsame, hsz, hbel, hko⟩ := run_appendOwn (P := P) (ty := ty) ht hi hz hzs hb8 hso1 hs (hbig s hso) (Nat.le_trans h.below.size hb1.size) (fun b hb => Nat.lt_of_lt_of_le (h.lt b hb) hb1.size) hyl
 have hrb : ∀ b ∈ no, ∀ c, s.a = some c → b ≠ c.block := fun b hb c hc e => by
  rcases hso with ⟨rfl, _⟩ | ⟨b', xs, ha, _, _, hn', _⟩
  · cases hc
  · rw [ha] at hc; cases hc; subst e; exact hn' hb
 have hB2 : w2.heap[B]? = some (.cells #[s.v] T (0, 0)) := hsame B _ (hrb B hB) (hkeep1 _ _ hsb)
 have hno2 : ∀ b ∈ no, ∀ o, W.heap[b]? = some o → w2.heap[b]? = some o := fun b hb o ho => hsame b o (hrb b hb) (hkeep1 _ _ ho)
 refine ⟨s', w2, hrun, fun p hp => ?_, hsame, hbel, hB2, ?_⟩
 · obtain ⟨cs, E', fr, he, hb, hin⟩ := h.boxes p hp
   exact hno2 _ hin _ hb
 intro w3 hB3 h3 hbel3
 have hs3 := hbel3.size
 refine ⟨⟨?_, fun p hp => ?_, ⟨s', hB3, ?_⟩, fun b hb => ?_⟩, fun D => ⟨?_, fun k o _ hk ho => ?_⟩, fun L n0 hL hn0 => ⟨?_, fun k hk o ho => ?_⟩⟩
 · exact ((h.below.trans (hb1.mono h.below.size)).trans hbel).trans (hbel3.mono hB0)
 · obtain ⟨cs, E', fr, he, hb, hin⟩ := h.boxes p hp
   exact ⟨cs, E', fr, he, h3 _ _ (hBf p hp) (hno2 _ hin _ hb), hin⟩
 · refine hrow.keep fun b o hb ho => h3 b o (fun e => hb (e ▸ hB)) ho
 · have := Nat.lt_of_lt_of_le (h.lt b hb) hb1.size
   omega
 · exact Nat.le_trans hb1.size (Nat.le_trans hsz hs3)
 · have hk2 := hko.same k o (hkeep1 _ _ hk) ho
   refine h3 k o (fun e => ?_) hk2
   subst e; rw [hB2] at hk2; cases hk2; cases ho
 · exact ((hb1.mono (Nat.le_trans hn0 h.below.size)).trans (hbel.mono hn0)).trans (hbel3.mono (Nat.le_trans hn0 hB0))
 · exact h3 k o (hL k hk).2 (hno2 k (hL k hk).1 o ho)
/-! ### A box that is old, written -/
def cutAt (B : Nat) (w : World) : World := { w with heap := w.heap.extract 0 B }
/-- All but one block is as it was. -/
def keepF (W : World) (B : Nat) : Fact := ⟨fun w no => ∀ b o, b ≠ B → W.heap[b]? = some o → b ∉ no ∧ w.heap[b]? = some o, fun w w' no no' hk h b o hb ho => hk b o (h b o hb ho).1 (h b o hb ho).2⟩
theorem cutAt_size {B : Nat} {w : World} (h : B ≤ w.heap.size) : (cutAt B w).heap.size = B := by simp [cutAt]; omega
theorem own_cut {w : World} {B : Nat} {cs : Array Value} {E : TypeId} (hB : w.heap[B]? = some (.cells cs E (0, 0))) (sl : List Fact) (hsl : ∀ F ∈ sl, F.P w [B]) (fb : Boxes) (hfb : ∀ p ∈ fb, w.heap[p.1]? = some p.2 ∧ p.1 ≠ B) : Own (cutAt B w) w [(B, .cells cs E (0, 0))] ⟨keepF w B :: sl, fb, []⟩ := by
 have hlt := getElem?_lt hB
 have hsz := cutAt_size (B := B) (w := w) ko
 refine ⟨⟨rfl, rfl, rfl, by omega, fun k hk => ?_⟩, fun p hp => ?_, fun p hp => ?_, by simp, fun r hr => ?_, fun p hp => ?_, by simp⟩
 · rw [hsz] at hk
   have h1 : k < (cutAt B w).heap.size := by omega
   rw [Array.getElem?_eq_getElem h1, Array.getElem?_eq_getElem ko]
   simp [cutAt]
 · simp only [List.mem_singleton] at hp; subst hp; exact hB
 · simp only [List.mem_singleton] at hp; subst hp; show (cutAt B w).heap.size ≤ B; omega
 · rcases List.mem_cons.1 hr with rfl | hr
   · exact fun b o hb ho => ⟨by simpa using hb, ho⟩
   · simpa using hsl r hr
 · exact ⟨(hfb p hp).1, by simpa using (hfb p hp).2⟩
/-- What has been kept since the cut. -/
theorem cut_after {w w3 : World} {B : Nat} {o o3 : Obj} {ro : Rd} {no : List Nat} (hB : w.heap[B]? = some o) (H : Own (cutAt B w) w3 [(B, o3)] ro) (hk : (keepF w B).P w3 no) : w3.heap[B]? = some o3 ∧ (∀ k o, k ≠ B → w.heap[k]? = some o → w3.heap[k]? = some o) ∧ Below B w w3 := by
 have hlt := getElem?_lt hB
 have hsz := cutAt_size (B := B) (w := w) ko
 have h3 := H.has (B, o3) (by simp)
 have hlt3 := getElem?_lt h3
 refine ⟨h3, fun k o hkb ho => (hk k o hkb ho).2, H.below.os, H.below.tape, H.below.output, ?_, fun k hkB => ?_⟩
 · by_cases hs : w.heap.size - 1 = B
   · omega
   · have h1 : w.heap.size - 1 < w.heap.size := by omega
     have := (hk (w.heap.size - 1) _ hs (Array.getElem?_eq_getElem h1)).2
     have := getElem?_lt this
     omega
 · have h1 : k < w.heap.size := by omega
   have := (hk k _ ko (Array.getElem?_eq_getElem h1)).2
   rw [this, Array.getElem?_eq_getElem h1]
theorem cut_below {w w3 : World} {B : Nat} {o : Obj} (hB : w.heap[B]? = some o) (h : w3.heap[B]? = some o ∧ (∀ k o, k ≠ B → w.heap[k]? = some o → w3.heap[k]? = some o) ∧ Below B w w3) : Below w.heap.size w w3 := by
 obtain ⟨h1, h2, h3⟩ := h
 refine ⟨h3.os, h3.tape, h3.output, h3.size, fun k hk => ?_⟩
 by_cases e : k = B
 · subst e; rw [h1, hB]
 · rw [h2 k _ e (Array.getElem?_eq_getElem hk), Array.getElem?_eq_getElem hk]
/-- A region in any order, from the world as it was drawn. -/
theorem drawnK {F : Fence} {kk : Nat} {P : Program} {Q : Exit → Act → World → Prop} {a : Act} {w : World} {ops : Array Oper} {id : Nat} (c : Nat) (S : World → Prop) (hm : P.follows .mixedOrders = true)
 (K : wpAnyC P .any ops Q c S ops.size (Array.replicate ops.size false) a w.drew) (O : Free F := by assumption) (hnd : noDef ops = true := by kernel_rfl) (hq : ¬ LetsOut Q := by (rintro ⟨_, _, h⟩; first | exact h | (obtain ⟨⟨_, hv⟩, _⟩ := h; cases hv))) : (Code.region id ops true).wpIn F kk P Q a w :=
 wpIn_region_any hm (any_in O hq hnd _ _ _ _ (wpAny_of_C _ _ _ _ K))
end Go.Proofs.YtfkmcdkncmapmaaGreatDoor.SX
set_option linter.unusedVariables false
set_option linter.unusedSimpArgs false
namespace Go.Proofs.YtfkmcdkncmapmaaGreatDoor.Bits
open Go
theorem wrap_u (a : Nat) (h : a < 18446744073709551616) : IntKind.u64.wrap (a : Int) = a := by rw [IntKind.wrap_u64]; omega
theorem wrap_u' (a : Nat) : IntKind.u64.wrap (a : Int) = ((a % 18446744073709551616 : Nat) : Int) := by rw [IntKind.wrap_u64]; omega
theorem pow64 : (2 : Nat) ^ 64 = 18446744073709551616 := by decide
theorem two_pow_le (n : Nat) (h : n ≤ 64) : 2 ^ n ≤ 18446744073709551616 := by
 rw [← pow64]; exact Nat.pow_le_pow_right kc h
theorem two_pow_lt (n : Nat) (h : n < 64) : 2 ^ n < 18446744073709551616 := by
 rw [← pow64]; exact Nat.pow_lt_pow_right kc h
theorem toNat_u (a : Nat) (h : a < 18446744073709551616) : (BitVec.ofInt 64 (a : Int)).toNat = a := by
 rw [BitVec.ofInt_natCast, BitVec.toNat_ofNat]; exact Nat.mod_eq_of_lt ko
theorem u_and (a b : Nat) (ha : a < 18446744073709551616) (hb : b < 18446744073709551616) : Value.int .u64 (IntKind.u64.wrap (((BitVec.ofInt IntKind.u64.bits (a : Int) &&& BitVec.ofInt IntKind.u64.bits (b : Int)).toNat : Nat) : Int)) = .int .u64 ((a &&& b : Nat) : Int) := by
 rw [show (BitVec.ofInt IntKind.u64.bits (a : Int) &&& BitVec.ofInt IntKind.u64.bits (b : Int)).toNat = a &&& b from by
  show (BitVec.ofInt 64 (a : Int) &&& BitVec.ofInt 64 (b : Int)).toNat = _
  rw [BitVec.toNat_and, toNat_u a ha, toNat_u b hb], wrap_u _ (Nat.lt_of_le_of_lt Nat.and_le_left ha)]
theorem u_or (a b : Nat) (ha : a < 18446744073709551616) (hb : b < 18446744073709551616) : Value.int .u64 (IntKind.u64.wrap (((BitVec.ofInt IntKind.u64.bits (a : Int) ||| BitVec.ofInt IntKind.u64.bits (b : Int)).toNat : Nat) : Int)) = .int .u64 ((a ||| b : Nat) : Int) := by
 have hx : a ||| b < 18446744073709551616 := by
  have := Nat.or_lt_two_pow (x := a) (y := b) (n := 64) (by rw [pow64]; exact ha) (by rw [pow64]; exact hb)
  rw [pow64] at this; exact this
 rw [show (BitVec.ofInt IntKind.u64.bits (a : Int) ||| BitVec.ofInt IntKind.u64.bits (b : Int)).toNat = a ||| b from by
  show (BitVec.ofInt 64 (a : Int) ||| BitVec.ofInt 64 (b : Int)).toNat = _
  rw [BitVec.toNat_or, toNat_u a ha, toNat_u b hb], wrap_u _ hx]
theorem u_andNot (a b : Nat) (ha : a < 18446744073709551616) (hb : b < 18446744073709551616) : Value.int .u64 (IntKind.u64.wrap (((BitVec.ofInt IntKind.u64.bits (a : Int) &&& ~~~ BitVec.ofInt IntKind.u64.bits (b : Int)).toNat : Nat) : Int)) = .int .u64 ((a &&& (18446744073709551615 - b) : Nat) : Int) := by
 have hx : a &&& (18446744073709551615 - b) < 18446744073709551616 := Nat.lt_of_le_of_lt Nat.and_le_left ha
 rw [show (BitVec.ofInt IntKind.u64.bits (a : Int) &&& ~~~ BitVec.ofInt IntKind.u64.bits (b : Int)).toNat = a &&& (18446744073709551615 - b) from by
  show (BitVec.ofInt 64 (a : Int) &&& ~~~ BitVec.ofInt 64 (b : Int)).toNat = _
  rw [BitVec.toNat_and, BitVec.toNat_not, toNat_u a ha, toNat_u b hb, pow64, show 18446744073709551616 - 1 - b = 18446744073709551615 - b by omega], wrap_u _ hx]
theorem u_shl (x y : Nat) : Value.int .u64 (IntKind.u64.wrap ((x : Int) * 2 ^ (min (Int.toNat (y : Int)) IntKind.u64.bits))) = .int .u64 ((x * 2 ^ (min y 64) % 18446744073709551616 : Nat) : Int) := by
 show Value.int .u64 (IntKind.u64.wrap ((x : Int) * 2 ^ (min y 64))) = _
 rw [show ((x : Int) * 2 ^ (min y 64)) = ((x * 2 ^ (min y 64) : Nat) : Int) by simp, wrap_u']
theorem u_shr (x y : Nat) : Value.int .u64 (Int.fdiv (x : Int) (2 ^ (min (Int.toNat (y : Int)) IntKind.u64.bits))) = .int .u64 ((x / 2 ^ (min y 64) : Nat) : Int) := by
 show Value.int .u64 (Int.fdiv (x : Int) (2 ^ (min y 64))) = _
 rw [show (2 : Int) ^ (min y 64) = ((2 ^ (min y 64) : Nat) : Int) by simp, Int.fdiv_eq_ediv_of_nonneg _ (Int.natCast_nonneg _)]
 simp
/-- A field of a word. -/
def getN (w lo n : Nat) : Nat := w / 2 ^ (min lo 64) &&& (2 ^ (min n 64) - 1)
/-- A word whose field is another one. -/
def setN (w lo n v : Nat) : Nat :=
 (w &&& (18446744073709551615 - (2 ^ (min n 64) - 1) * 2 ^ (min lo 64) % 18446744073709551616)) |||
  (v * 2 ^ (min lo 64) % 18446744073709551616 &&& (2 ^ (min n 64) - 1) * 2 ^ (min lo 64) % 18446744073709551616)

theorem lt_of_pow (a : Nat) : a < 2 ^ 64 ↔ a < 18446744073709551616 := by rw [pow64]

theorem getN_mod (w lo n : Nat) (hlo : lo ≤ 64) (hn : n ≤ 64) : getN w lo n = w / 2 ^ lo % 2 ^ n := by
 unfold getN
 rw [Nat.min_eq_left hlo, Nat.min_eq_left hn, Nat.and_two_pow_sub_one_eq_mod]
theorem getN_lt (w lo n : Nat) (hw : w < 18446744073709551616) : getN w lo n < 18446744073709551616 := by
 unfold getN
 refine Nat.lt_of_le_of_lt Nat.and_le_left (Nat.lt_of_le_of_lt (Nat.div_le_self _ _) hw)
theorem testBit_getN (w lo n i : Nat) (hw : w < 18446744073709551616) : (getN w lo n).testBit i = (decide (i < n) && w.testBit (lo + i)) := by
 unfold getN
 have hw' : w < 2 ^ 64 := (lt_of_pow w).2 hw
 rw [Nat.testBit_and, Nat.testBit_two_pow_sub_one, ← Nat.shiftRight_eq_div_pow, Nat.testBit_shiftRight]
 by_cases h : lo ≤ 64
 · rw [Nat.min_eq_left h]
   by_cases h2 : n ≤ 64
   · rw [Nat.min_eq_left h2, Bool.and_comm]
   · rw [Nat.min_eq_right ko, Bool.and_comm]
     by_cases h3 : i < 64
     · simp [h3, show i < n by omega]
     · simp [h3, Nat.testBit_lt_two_pow (Nat.lt_of_lt_of_le hw' (Nat.pow_le_pow_right kc (show 64 ≤ lo + i by omega)))]
 · rw [Nat.min_eq_right ko, Nat.testBit_lt_two_pow (Nat.lt_of_lt_of_le hw' (Nat.pow_le_pow_right kc (show 64 ≤ 64 + i by omega))),
     Nat.testBit_lt_two_pow (Nat.lt_of_lt_of_le hw' (Nat.pow_le_pow_right kc (show 64 ≤ lo + i by omega)))]
   simp

theorem testBit_all (b i : Nat) (hb : b < 18446744073709551616) : (18446744073709551615 - b).testBit i = (decide (i < 64) && !b.testBit i) := by
 have := Nat.testBit_two_pow_sub_succ (n := 64) (x := b) ko i
 rw [← this, pow64, show 18446744073709551615 - b = 18446744073709551616 - (b + 1) by omega]
theorem testBit_shl (v lo i : Nat) : (v * 2 ^ (min lo 64) % 18446744073709551616).testBit i = (decide (i < 64) && (decide (lo ≤ i) && v.testBit (i - lo))) := by
 rw [← pow64, Nat.testBit_mod_two_pow]
 by_cases hi : i < 64
 · simp only [hi, decide_true, Bool.true_and]
   rw [← Nat.shiftLeft_eq, Nat.testBit_shiftLeft]
   by_cases h : lo ≤ 64
   · rw [Nat.min_eq_left h]
   · rw [Nat.min_eq_right ko]; simp [show ¬ 64 ≤ i by omega, show ¬ lo ≤ i by omega]
 · simp [hi]
theorem setN_lt (w lo n v : Nat) : setN w lo n v < 18446744073709551616 := by
 unfold setN
 rw [← lt_of_pow]
 refine Nat.or_lt_two_pow (Nat.and_lt_two_pow _ ?_) (Nat.and_lt_two_pow _ ?_)
 · rw [pow64]; omega
 · rw [pow64]; exact Nat.mod_lt _ kc
theorem testBit_setN (w lo n v i : Nat) (hw : w < 18446744073709551616) :
 (setN w lo n v).testBit i = if lo ≤ i ∧ i < lo + n ∧ i < 64 then v.testBit (i - lo) else w.testBit i := by
 unfold setN
 have hw' : w < 2 ^ 64 := (lt_of_pow w).2 hw
 have hm : (2 ^ (min n 64) - 1) * 2 ^ (min lo 64) % 18446744073709551616 < 18446744073709551616 := Nat.mod_lt _ kc
 rw [Nat.testBit_or, Nat.testBit_and, Nat.testBit_and, testBit_all _ _ hm, testBit_shl, testBit_shl, Nat.testBit_two_pow_sub_one]
 by_cases hi : i < 64
 · by_cases hlo : lo ≤ i
   · by_cases hn : i < lo + n
     · simp [hi, hlo, hn, show i - lo < min n 64 by omega]
     · simp [hi, hlo, hn, show ¬ i - lo < min n 64 by omega]
   · simp [hi, hlo]
 · simp [hi, Nat.testBit_lt_two_pow (Nat.lt_of_lt_of_le hw' (Nat.pow_le_pow_right kc (show 64 ≤ i by omega)))]

theorem eq_of_bits {a b : Nat} (h : ∀ i, a.testBit i = b.testBit i) : a = b := Nat.eq_of_testBit_eq h
/-- Bits beyond the word are nought. -/
theorem bit_high (w i : Nat) (hw : w < 18446744073709551616) (hi : 64 ≤ i) : w.testBit i = false :=
 Nat.testBit_lt_two_pow (Nat.lt_of_lt_of_le ((lt_of_pow w).2 hw) (Nat.pow_le_pow_right kc hi))
/-- A field set above a smaller number is a sum. -/
theorem setN_add (w lo n v : Nat) (hln : lo + n ≤ 64) (hw : w < 2 ^ lo) (hv : v < 2 ^ n) : setN w lo n v = w + 2 ^ lo * v := by
 have h8 := two_pow_le lo ko
 refine eq_of_bits fun j => ?_
 rw [testBit_setN _ _ _ _ _ ko, Nat.add_comm w, Nat.testBit_two_pow_mul_add v hw j]
 by_cases h1 : j < lo
 · rw [if_neg ko, if_pos h1]
 · rw [if_neg h1]
   by_cases h2 : j < lo + n
   · rw [if_pos ko]
   · rw [if_neg ko, Nat.testBit_lt_two_pow (Nat.lt_of_lt_of_le hw (Nat.pow_le_pow_right kc ko)),
       Nat.testBit_lt_two_pow (Nat.lt_of_lt_of_le hv (Nat.pow_le_pow_right kc ko))]
end Go.Proofs.YtfkmcdkncmapmaaGreatDoor.Bits
