/- The rows of SX inside a fence: for a loop's body in a range over a function, and for iterators that call yield. -/
import Derived.Test.YtfkmcdkncmapmaaGreatDoorY02
import Derived.Test.YtfkmcdkncmapmaaGreatDoorY03
import Derived.RangeFuncNested
import Derived.RangeFuncBound
import Derived.RangeFuncCalls
import Derived.RangeFuncLeaves
import Derived.OrdersIn
set_option linter.unusedVariables false
set_option linter.unusedSimpArgs false
namespace Go.Proofs.YtfkmcdkncmapmaaGreatDoor.SX
open Go Go.RowKit
/-- What is known, less the first so many. -/
theorem Own.ro_top {w0 w : World} {bs : Boxes} {ro : Rd} (h : Own w0 w bs ro) (k : Nat) (sl : List Fact) (hd : ro.sl.drop k = sl) : Own w0 w bs ⟨sl, ro.fb, ro.no⟩ := by
 subst hd
 exact ⟨h.below, h.has, h.fresh, h.nodup, fun r hr => h.hro r (List.mem_of_mem_drop hr), h.hfb, h.hno⟩
/-- Facts picked out, and what stands behind the first so many. -/
theorem Own.ro_pickT {w0 w : World} {bs : Boxes} {ro : Rd} (h : Own w0 w bs ro) (idx : List Nat) (k : Nat) (sl' : List Fact) (hi : (idx.map (fun i => (ro.sl[i]?).map Fact.P)) ++ (ro.sl.drop k).map (fun F => some F.P) = sl'.map (fun F => some F.P)) : Own w0 w bs ⟨sl', ro.fb, ro.no⟩ := by
 refine ⟨h.below, h.has, h.fresh, h.nodup, fun F hF => ?_, h.hfb, h.hno⟩
 have : some F.P ∈ (idx.map (fun i => (ro.sl[i]?).map Fact.P)) ++ (ro.sl.drop k).map (fun F => some F.P) := by rw [hi]; exact List.mem_map_of_mem (f := fun F => some F.P) hF
 rcases List.mem_append.1 this with hm | hm
 · obtain ⟨i, _, hx⟩ := List.mem_map.1 hm
   cases hr : ro.sl[i]? with
   | none => rw [hr] at hx; cases hx
   | some r =>
    rw [hr] at hx
    simp only [Option.map_some, Option.some.injEq] at hx
    rw [← hx]
    exact h.hro r (List.mem_of_getElem? hr)
 · obtain ⟨r, hr, hx⟩ := List.mem_map.1 hm
   simp only [Option.some.injEq] at hx
   rw [← hx]
   exact h.hro r (List.mem_of_mem_drop hr)
/-- A fence that lets everything in. -/
structure Free (F : Fence) : Prop where
 fn : ∀ f, F.fn f
 depth : F.depth = none
 calls : ∀ {n : Nat} {P : Program} {f : FuncId} {args : Array Value} {w : World} {R : Ending → World → Prop}, Calls P f args w R → CallsIn F n P f args w R
 rows : ∀ {n : Nat} {P : Program} {row : String} {args : Array Value} {w : World} {R : Value → World → Prop}, Rows P row args w R → RowsIn F n P row args w R
theorem rows_wide {n : Nat} {P : Program} {row : String} {args : Array Value} {w : World} {R : Value → World → Prop} (h : Rows P row args w R) : RowsIn Fence.wide n P row args w R :=
 fun c cs _ => let ⟨v, w', r, s⟩ := h c cs; ⟨v, w', r, stepsIn_wide.2 s⟩
theorem free_wide : Free Fence.wide := ⟨fun _ => trivial, rfl, fun h => callsIn_wide.2 h, fun h => rows_wide h⟩
theorem free_round (l : Nat) : Free (Fence.wide.inRound l) := ⟨fun _ => trivial, rfl, fun h => CallsIn.inRound l (callsIn_wide.2 h), fun h => rows_wide h⟩
def noDef (ops : Array Oper) : Bool := ops.toList.all fun o => match o.op with | .defer _ => false | _ => true
theorem noDef_at {ops : Array Oper} (h : noDef ops = true) {i : Nat} {o : Oper} (hi : ops[i]? = some o) : ∀ c, o.op ≠ .defer c := fun c hc => by
 have := List.all_eq_true.1 h o (Array.mem_toList_iff.2 (Array.mem_of_getElem? hi))
 rw [hc] at this
 cases this
section
variable {F : Fence} {kk : Nat} {P : Program} {ops : Array Oper} {Q : Exit → Act → World → Prop} {n : Nat} {w0 : World} {ro : Rd} {e : Env} {bs : Boxes} {a : Act} {w : World}
theorem wpOpI_step (O : Free F) (hnd : noDef ops = true) {i j : Nat} {e : Env} {bs : Boxes} {a : Act} {w : World} {se : Seen} {r : Res} {K : Act → World → Prop} (h : stepE P ro.fb ops n i j e bs w.heap.size se = some r) (hse : ∀ p ∈ r.2.2.2, p.1 = p.2)
 (hA : Agrees n a e) (hO : Own w0 w bs ro) (hK : ∀ a' w', Agrees n a' r.1 → Own w0 w' r.2.1 ro → w'.heap.size = r.2.2.1 → K a' w') : wpOpIn F kk P ops Q i K a w := by
 unfold stepE at h
 split at h
 · cases h
 · rename_i o ho
   unfold wpOpIn
   simp only [ho]
   split at h
   · cases h
   · rename_i hw
     obtain ⟨e', he, rfl⟩ := Option.map_eq_some_iff.1 h
     rw [wantedE_sound hA hw]
     exact ⟨fun f _ => O.fn f, hK _ _ (bindE_sound hA he) hO rfl⟩
   · rename_i hw
     rw [wantedE_sound hA hw]
     cases hc : (isSel o.op || !List.all _ (known e)) with
     | true => rw [hc] at h; cases h
     | false =>
      rw [hc] at h
      simp only [cond_false] at h
      simp only [Bool.or_eq_false_iff, Bool.not_eq_false'] at hc
      simp only [if_true]
      refine ⟨fun f _ => O.fn f, ?_⟩
      rw [Oper.semAt_eq _ _ _ (noDef_at hnd ho), execOp_env hA hc.2 (not_sel hc.1)]
      split at h
      · rename_i v bs' nx' se' hr
        obtain ⟨e', he, rfl⟩ := Option.map_eq_some_iff.1 h
        obtain ⟨w', hrun, ho', hz⟩ := runS_sound P j _ bs se w _ hr hse hO
        rw [hrun]
        exact hK _ _ (bindE_sound hA he) ho' hz
      · rename_i bs' nx' se' hr
        obtain ⟨e', he, rfl⟩ := Option.map_eq_some_iff.1 h
        obtain ⟨w', hrun, ho', hz⟩ := runS_sound P j _ bs se w _ hr hse hO
        rw [hrun]
        exact hK _ _ (bindE_sound hA he) ho' hz
      · cases h
theorem wpOpsI_run (O : Free F) (hnd : noDef ops = true) : ∀ (l : List (Nat × Nat)) {rest : List Nat} {e : Env} {bs : Boxes} {a : Act} {w : World} {se : Seen} {r : Res}, runL P ro.fb ops n l e bs w.heap.size se = some r → (∀ p ∈ r.2.2.2, p.1 = p.2) →
 Agrees n a e → Own w0 w bs ro → (∀ a' w', Agrees n a' r.1 → Own w0 w' r.2.1 ro → wpOpsIn F kk P ops Q rest a' w') → wpOpsIn F kk P ops Q (l.map (·.1) ++ rest) a w
 | [], rest, e, bs, a, w, se, r, h, hse, hA, hO, hK => by
  simp only [runL, Option.some.injEq] at h; subst h; exact hK a w hA hO
 | q :: l, rest, e, bs, a, w, se, r, h, hse, hA, hO, hK => by
  simp only [runL] at h
  split at h
  · cases h
  · rename_i e' bs' nx' se' hs
    rw [List.map_cons, List.cons_append, wpOpsIn_cons]
    refine wpOpI_step O hnd hs (fun p hp => hse p (runL_seen l h p hp)) hA hO fun a' w' hA' hO' hz => ?_
    refine wpOpsI_run O hnd l (se := se') (r := r) ?_ hse hA' hO' hK
    rw [hz]; exact h
/-- **A ROW OF OPERATIONS, RUN.** -/
theorem batchI {ks : List Nat} (js : List Nat) (A : Agrees n a e) (H : Own w0 w bs ro)
 (hr : (runL P ro.fb ops n (hinted ks js) e bs w.heap.size []).map Res.fsts = some (Res.snds (after (runL P ro.fb ops n (hinted ks js) e bs w.heap.size []))))
 (hk : ks = (hinted ks js).map (·.1) ++ ks.drop js.length)
 (K : ∀ a' w', Agrees n a' (after (runL P ro.fb ops n (hinted ks js) e bs w.heap.size [])).1 → Own w0 w' (after (runL P ro.fb ops n (hinted ks js) e bs w.heap.size [])).2.1 ro → wpOpsIn F kk P ops Q (ks.drop js.length) a' w')
 (O : Free F := by assumption) (hnd : noDef ops = true := by kernel_rfl) : wpOpsIn F kk P ops Q ks a w := by
 obtain ⟨h1, h2⟩ := of_after hr
 rw [hk]
 exact wpOpsI_run O hnd _ h1 h2 A H K
theorem ops_doneI {ks : List Nat} (hk : ks = []) (K : Q .normal a w) : wpOpsIn F kk P ops Q ks a w := by subst hk; exact K
theorem callOfI_sound (O : Free F) (hnd : noDef ops = true) {i : Nat} {ks : List Nat} {f : Nat} {args : Array Value} {K : Act → World → Prop} (A : Agrees n a e) (hx : callOf P ops e (i :: ks) = some (f, args))
 (hc : Calls P f args w fun | .returned v, w'' => K (a.put (dstOf ops (i :: ks)) v) w'' | .panicked chain, w'' => Q (.panic chain) a w'' | .outgrown, _ => LetsOut Q) : wpOpIn F kk P ops Q i K a w := by
 unfold callOf at hx
 simp only at hx
 unfold wpOpIn
 split at hx
 · cases hx
 · rename_i o ho
   simp only [ho]
   split at hx
   · rename_i hw
     rw [wantedE_sound A hw]
     cases hc' : (isSel o.op || !List.all _ (known e)) with
     | true => rw [hc'] at hx; cases hx
     | false =>
      rw [hc'] at hx
      simp only [cond_false] at hx
      simp only [Bool.or_eq_false_iff, Bool.not_eq_false'] at hc'
      simp only [if_true]
      refine ⟨fun f _ => O.fn f, ?_⟩
      rw [Oper.semAt_eq _ _ _ (noDef_at hnd ho), execOp_env A hc'.2 (not_sel hc'.1)]
      split at hx
      · rename_i f' args' hr
        simp only [Option.some.injEq, Prod.mk.injEq] at hx
        obtain ⟨rfl, rfl⟩ := hx
        rw [runS_pure P 0 _ hr w]
        simp only [dstOf, ho, Option.bind_some] at hc
        exact ⟨fun h => (by rw [O.depth] at h; cases h), O.calls hc⟩
      · cases hx
   · cases hx
theorem callI {ks : List Nat} {f : Nat} {args : Array Value} {Φ : Value → World → Prop} (A : Agrees n a e) (H : Own w0 w bs ro) (hc : Rets P f args w Φ)
 (hx : callOf P ops e ks = some (f, args)) (hd : (bindE n (dstOf ops ks) undef e).isSome = true)
 (K : ∀ v a' w', Φ v w' → Agrees n a' (put1 n ops ks v e) → Own w0 w' bs ro → wpOpsIn F kk P ops Q (ks.drop 1) a' w') (O : Free F := by assumption) (hnd : noDef ops = true := by kernel_rfl) : wpOpsIn F kk P ops Q ks a w := by
 cases ks with
 | nil => cases hx
 | cons i ks =>
  rw [wpOpsIn_cons]
  refine callOfI_sound O hnd A hx (Calls.mono hc ?_)
  rintro e' w' ⟨v, rfl, hb, hv⟩
  exact K v _ w' hv (bind_put A hd v) (H.later hb)
theorem callGI {ks : List Nat} {f : Nat} {args : Array Value} {v : Value} (A : Agrees n a e) (H : Own w0 w bs ro) (hc : Gives P f args w v)
 (hx : callOf P ops e ks = some (f, args)) (hd : (bindE n (dstOf ops ks) undef e).isSome = true)
 (K : ∀ a' w', Agrees n a' (put1 n ops ks v e) → Own w0 w' bs ro → wpOpsIn F kk P ops Q (ks.drop 1) a' w') (O : Free F := by assumption) (hnd : noDef ops = true := by kernel_rfl) : wpOpsIn F kk P ops Q ks a w :=
 callI A H hc hx hd (fun u a' w' hu A' H' => by subst hu; exact K a' w' A' H') O hnd
theorem givenAnyI {ks : List Nat} {s : Sem Next} (A : Agrees n a e) (hx : operOf P ops e ks = some s)
 (K : ∀ i o, ks.head? = some i → ops[i]? = some o → o.uponIn F kk P a (wpOpsIn F kk P ops Q (ks.drop 1)) Q (s.run P w)) (O : Free F := by assumption) (hnd : noDef ops = true := by kernel_rfl) : wpOpsIn F kk P ops Q ks a w := by
 cases ks with
 | nil => cases hx
 | cons i ks =>
  rw [wpOpsIn_cons]
  unfold operOf at hx
  simp only at hx
  unfold wpOpIn
  split at hx
  · cases hx
  · rename_i o ho
    simp only [ho]
    split at hx
    · rename_i hw
      rw [wantedE_sound A hw]
      cases hc' : (isSel o.op || !List.all _ (known e)) with
      | true => rw [hc'] at hx; cases hx
      | false =>
       rw [hc'] at hx
       simp only [cond_false, Option.some.injEq] at hx
       simp only [Bool.or_eq_false_iff, Bool.not_eq_false'] at hc'
       simp only [if_true]
       refine ⟨fun f _ => O.fn f, ?_⟩
       rw [Oper.semAt_eq _ _ _ (noDef_at hnd ho), execOp_env A hc'.2 (not_sel hc'.1), hx]
       exact K i o rfl ho
    · cases hx
theorem dst_head {ks : List Nat} {i : Nat} {o : Oper} (hi : ks.head? = some i) (ho : ops[i]? = some o) : o.dst = dstOf ops ks := by
 cases ks with
 | nil => cases hi
 | cons j ks => simp only [List.head?_cons, Option.some.injEq] at hi; subst hi; simp [dstOf, ho]
theorem givenI {ks : List Nat} {s : Sem Next} {w' : World} {v : Value} (A : Agrees n a e) (hv : s.run P w = .ok (.value v) w') (hx : operOf P ops e ks = some s)
 (hd : (bindE n (dstOf ops ks) undef e).isSome = true)
 (K : ∀ a', Agrees n a' (put1 n ops ks v e) → wpOpsIn F kk P ops Q (ks.drop 1) a' w') (O : Free F := by assumption) (hnd : noDef ops = true := by kernel_rfl) : wpOpsIn F kk P ops Q ks a w := by
 refine givenAnyI A hx (fun i o hi ho => ?_) O hnd
 rw [hv]
 have := K _ (bind_put A hd v)
 rw [← dst_head hi ho] at this
 exact this
theorem givenSI {ks : List Nat} {s : Sem Next} {w' : World} (A : Agrees n a e) (hv : s.run P w = .ok .skip w') (hx : operOf P ops e ks = some s)
 (hd : (bindE n (dstOf ops ks) undef e).isSome = true)
 (K : ∀ a', Agrees n a' (put1 n ops ks undef e) → wpOpsIn F kk P ops Q (ks.drop 1) a' w') (O : Free F := by assumption) (hnd : noDef ops = true := by kernel_rfl) : wpOpsIn F kk P ops Q ks a w := by
 refine givenAnyI A hx (fun i o hi ho => ?_) O hnd
 rw [hv]
 have := K _ (bind_put A hd undef)
 rw [← dst_head hi ho] at this
 exact this
/-- **A CALL OF yield.** -/
theorem yieldI {ks : List Nat} {l : Nat} {args : Array Value} {R : Ending → World → Prop} (A : Agrees n a e) (hY : YieldAt F (kk - 1) P l args w R) (hx : operOf P ops e ks = some (Instr.yield l args))
 (hd : (bindE n (dstOf ops ks) undef e).isSome = true)
 (K : ∀ e1 w', R e1 w' → ∃ v, e1 = .returned v ∧ ∀ a', Agrees n a' (put1 n ops ks v e) → wpOpsIn F kk P ops Q (ks.drop 1) a' w') (O : Free F := by assumption) (hnd : noDef ops = true := by kernel_rfl) : wpOpsIn F kk P ops Q ks a w := by
 refine givenAnyI A hx (fun i o hi ho => ?_) O hnd
 obtain ⟨fn, tmps, assign, body, hy, hR⟩ := hY
 rw [hy]
 refine ⟨fun h => (by rw [O.depth] at h; cases h), hR.mono fun e1 w' h => ?_⟩
 obtain ⟨v, rfl, hK⟩ := K e1 w' h
 have := hK _ (bind_put A hd v)
 rw [← dst_head hi ho] at this
 exact this
/-! ### What is walked outside is walked inside -/
theorem oper_in (O : Free F) {o : Oper} (hd : ∀ c, o.op ≠ .defer c) {a : Act} {w : World} {K : Act → World → Prop} (h : o.wp P a w K Q) : o.wpIn F kk P a w K Q := by
 refine ⟨fun f _ => O.fn f, ?_⟩
 rw [Oper.semAt_eq _ _ _ hd]
 unfold Oper.wp at h
 generalize (execOp a.eval o).run P w = r at h ⊢
 have hnd : F.depth.isSome = true → 1 ≤ kk := fun h => by rw [O.depth] at h; cases h
 cases r with
 | ok x w' =>
  cases x with
  | enter f args => exact ⟨hnd, O.calls h⟩
  | row r args => exact ⟨hnd, O.rows h⟩
  | value v => exact h
  | skip => exact h
  | defer d => exact h
  | _ => exact h.elim
 | halt x w' =>
  cases x with
  | panic v => exact h
  | _ => exact h.elim
theorem op_in (O : Free F) (hq : ¬ LetsOut Q) (hnd : noDef ops = true) {i : Nat} {a : Act} {w : World} {K : Act → World → Prop} (h : wpOp P ops Q i K a w) : wpOpIn F kk P ops Q i K a w := by
 unfold wpOp at h
 unfold wpOpIn
 cases ho : ops[i]? with
 | none => simp only [ho] at h ⊢; exact h
 | some o =>
  simp only [ho] at h ⊢
  split at h
  · rename_i hw
    rw [if_pos hw]
    exact oper_in O (noDef_at hnd ho) (h.resolve_right fun hk => hq hk.2)
  · rename_i hw
    rw [if_neg hw]
    exact ⟨fun f _ => O.fn f, h⟩
theorem ops_in (O : Free F) (hq : ¬ LetsOut Q) (hnd : noDef ops = true) : ∀ (l : List Nat) (a : Act) (w : World), wpOps P ops Q l a w → wpOpsIn F kk P ops Q l a w
 | [], a, w, h => h
 | i :: l, a, w, h => by
  rw [wpOps_cons] at h
  rw [wpOpsIn_cons]
  exact op_in O hq hnd (wpOp_mono (fun a w h => ops_in O hq hnd l a w h) h)
theorem any_in (O : Free F) (hq : ¬ LetsOut Q) (hnd : noDef ops = true) {md : Region.Mode} : ∀ (fuel : Nat) (listed : Array Bool) (a : Act) (w : World), wpAny P md ops Q fuel listed a w → wpAnyIn F kk P md ops Q fuel listed a w
 | 0, _, _, _, h => h
 | fuel + 1, listed, a, w, h => ⟨h.1, fun i hi => op_in O hq hnd (wpOp_mono (fun a w h => any_in O hq hnd fuel _ a w h) (h.2 i hi))⟩
theorem regionI {id : Nat} (h : wpOps P ops Q (List.range ops.size) a w) (O : Free F := by assumption) (hnd : noDef ops = true := by kernel_rfl) (hq : ¬ LetsOut Q := by (rintro ⟨_, _, h⟩; first | exact h | (obtain ⟨⟨_, hv⟩, _⟩ := h; cases hv))) : (Code.region id ops false).wpIn F kk P Q a w := wpIn_region (ops_in O hq hnd _ _ _ h)
theorem drawnI {id : Nat} (c : Nat) (idx : List Nat) (hm : P.follows .mixedOrders = true) (A : Agrees n a e) (H : Own w0 w bs ro)
 (K : ∀ w', Own w0 w' bs ro → wpAnyC P .any ops Q c (Keeps ro.fb (picks idx bs) ro.sl) ops.size (Array.replicate ops.size false) a w') (O : Free F := by assumption) (hnd : noDef ops = true := by kernel_rfl) (hq : ¬ LetsOut Q := by (rintro ⟨_, _, h⟩; first | exact h | (obtain ⟨⟨_, hv⟩, _⟩ := h; cases hv))) : (Code.region id ops true).wpIn F kk P Q a w :=
 wpIn_region_any hm (any_in O hq hnd _ _ _ _ (wpAny_of_C _ _ _ _ (K _ H.drew)))
/-! ### Code -/
theorem seqI {x y : Code} (h : x.wpIn F kk P (Exit.then (y.wpIn F kk P Q) Q) a w) : (Code.seq x y).wpIn F kk P Q a w := wpIn_seq h
theorem condI {c : Operand} {x y : Code} (b : Bool) (A : Agrees n a e) (hb : rho e c = .bool b) (hk : known e c = true) (ht : b = true → x.wpIn F kk P Q a w) (hf : b = false → y.wpIn F kk P Q a w) : (Code.cond c x y).wpIn F kk P Q a w :=
 wpIn_cond_split (by rw [A.eval hk, hb]) ht hf
theorem condTI {c : Operand} {x y : Code} (A : Agrees n a e) (hb : rho e c = .bool true) (hk : known e c = true) (ht : x.wpIn F kk P Q a w) : (Code.cond c x y).wpIn F kk P Q a w := wpIn_cond_true (by rw [A.eval hk, hb]) ht
theorem condFI {c : Operand} {x y : Code} (A : Agrees n a e) (hb : rho e c = .bool false) (hk : known e c = true) (hf : y.wpIn F kk P Q a w) : (Code.cond c x y).wpIn F kk P Q a w := wpIn_cond_false (by rw [A.eval hk, hb]) hf
/-- A loop by a ghost. -/
theorem loopGI {σ : Type} {c : Code} (I : σ → Act → World → Prop) (μ : σ → Nat) (s0 : σ) (h0 : I s0 a w)
 (hround : ∀ s a w, I s a w → c.wpIn F kk P (Exit.then (fun a' w' => ∃ s', I s' a' w' ∧ μ s' < μ s) Q) a w) : (Code.loop c).wpIn F kk P Q a w := by
 have least : ∀ (p : Nat → Prop) (n : Nat), p n → ∃ m, p m ∧ ∀ k, p k → m ≤ k := by
  intro p n
  induction n using Nat.strongRecOn with
  | _ n ih =>
   intro hn
   by_cases h : ∃ m, m < n ∧ p m
   · obtain ⟨m, hm, hp⟩ := h; exact ih m hm hp
   · exact ⟨n, hn, fun k hk => by
       rcases Nat.lt_or_ge k n with h' | h'
       · exact absurd ⟨k, h', hk⟩ h
       · exact h'⟩
 have hex : ∀ a w, ∃ m, (∃ g, I g a w) → (∃ g, I g a w ∧ μ g = m) ∧ ∀ g, I g a w → m ≤ μ g := by
  intro a w
  by_cases h : ∃ g, I g a w
  · obtain ⟨g, hg⟩ := h
    obtain ⟨m, hm, hle⟩ := least (fun m => ∃ g, I g a w ∧ μ g = m) (μ g) ⟨g, hg, rfl⟩
    exact ⟨m, fun _ => ⟨hm, fun g' hg' => hle _ ⟨g', hg', rfl⟩⟩⟩
  · exact ⟨0, fun h' => absurd h' h⟩
 refine wpIn_loop (fun a w => ∃ g, I g a w) (fun a w => (hex a w).choose) ⟨s0, h0⟩ fun a w hJ => ?_
 obtain ⟨⟨g, hg, hm⟩, _⟩ := (hex a w).choose_spec hJ
 refine wpIn_mono (hround g a w hg) fun x a' w' h => ?_
 cases x with
 | normal =>
  obtain ⟨g', hg', hlt⟩ := h
  refine ⟨⟨g', hg'⟩, ?_⟩
  have := ((hex a' w').choose_spec ⟨g', hg'⟩).2 g' hg'
  show (hex a' w').choose < (hex a w).choose
  omega
 | _ => exact h
end
/-! ### Functions -/
theorem enterI {P : Program} {f : Nat} {fn : Func} {c : Code} {args : List Value} {R : Ending → World → Prop} {w : World} {kk : Nat} {no : List Nat} (hno : ∀ b ∈ no, b < w.heap.size) (n : Nat) (hf : P.funcs[f]? = some fn) (hb : fn.body = some c) (hn : n = args.length + (fn.ntmps - args.length))
 (h : ∀ a, Agrees n a (enum 0 args) → Own w w [] ⟨[], [], no⟩ → c.wpIn Fence.wide kk P (bodyPost P fn R) a w) : CallsIn Fence.wide kk P f args.toArray w R := by
 refine callsIn_of_wp hf hb trivial (h _ ⟨rfl, by simp [hn], fun t v hv => ?_⟩ (Own.start w no hno))
 obtain ⟨_, h2⟩ := enum_get args 0 t v hv
 rw [Nat.sub_zero] at h2
 have hlt := (List.getElem?_eq_some_iff.1 h2).1
 rw [Array.getElem?_append_left (by simpa using hlt)]
 simpa using h2
/-- A function that holds a range over a function. -/
theorem enterM {P : Program} {f : Nat} {fn : Func} {c : Code} {args : List Value} {R : Ending → World → Prop} {w : World} {no : List Nat} (hno : ∀ b ∈ no, b < w.heap.size) (n : Nat) (hf : P.funcs[f]? = some fn) (hb : fn.body = some c) (hn : n = args.length + (fn.ntmps - args.length))
 (h : ∀ a, Agrees n a (enum 0 args) → Own w w [] ⟨[], [], no⟩ → c.wp P (bodyPostM Fence.wide 9 P fn R) a w) : Calls P f args.toArray w R := by
 refine callsIn_wide.1 (callsIn_of_wp_marks (n := 9) hf hb trivial (wpIn_wide.2 (h _ ⟨rfl, by simp [hn], fun t v hv => ?_⟩ (Own.start w no hno))))
 obtain ⟨_, h2⟩ := enum_get args 0 t v hv
 rw [Nat.sub_zero] at h2
 have hlt := (List.getElem?_eq_some_iff.1 h2).1
 rw [Array.getElem?_append_left (by simpa using hlt)]
 simpa using h2
/-- What is known of an activation that bears a mark. -/
theorem Agrees.round2 {n : Nat} {a : Act} {e : Env} (h : Agrees n a e) {p q : Nat} (hp : p < n) (hq : q < n) (u v : Value) : Agrees n { tmps := ((#[p, q] : Array Nat).zip #[u, v]).foldl (fun t (x : Nat × Value) => t.setIfInBounds x.1 x.2) a.tmps, defers := [] } ((q, v) :: (p, u) :: e) := by
 have := (h.put hp u).put hq v
 have hd := h.defers
 cases a
 simp only at hd
 subst hd
 have e1 : ∀ t : Array Value, ((#[p, q] : Array Nat).zip #[u, v]).foldl (fun t (x : Nat × Value) => t.setIfInBounds x.1 x.2) t = (t.setIfInBounds p u).setIfInBounds q v := fun t => by simp
 rw [e1]
 exact this
theorem Agrees.round1 {n : Nat} {a : Act} {e : Env} (h : Agrees n a e) {p : Nat} (hp : p < n) (u : Value) : Agrees n { tmps := ((#[p] : Array Nat).zip #[u]).foldl (fun t (x : Nat × Value) => t.setIfInBounds x.1 x.2) a.tmps, defers := [] } ((p, u) :: e) := by
 have := h.put hp u
 have hd := h.defers
 cases a
 simp only at hd
 subst hd
 have e1 : ∀ t : Array Value, ((#[p] : Array Nat).zip #[u]).foldl (fun t (x : Nat × Value) => t.setIfInBounds x.1 x.2) t = t.setIfInBounds p u := fun t => by simp
 rw [e1]
 exact this
/-- What abides an iterator's steps abides new blocks. -/
theorem abides_below {β : Type} {B : Nat} {J : β → World → Prop} (hJ : AbidesFrom B J) {s : β} {W W' : World} (h : J s W) (hb : Below W.heap.size W W') : J s W' :=
 hJ s W W' none h ⟨hb.os, hb.tape, hb.output, hb.size, fun k hk _ => hb.block k hk⟩ (fun r e => by cases e)
/-- What a round that goes on keeps: blocks that are named, and what lay below. -/
structure KeepK (L : List Nat) (n0 : Nat) (W W' : World) : Prop where
 below : Below n0 W W'
 same : ∀ k ∈ L, ∀ o, W.heap[k]? = some o → W'.heap[k]? = some o
theorem KeepK.refl (L : List Nat) (n0 : Nat) (W : World) : KeepK L n0 W W := ⟨Below.refl _ _, fun _ _ _ h => h⟩
theorem KeepK.trans {L : List Nat} {n0 : Nat} {A B C : World} (h : KeepK L n0 A B) (k : KeepK L n0 B C) : KeepK L n0 A C := ⟨h.below.trans k.below, fun i hi o ho => k.same i hi o (h.same i hi o ho)⟩
theorem keepK_b {L : List Nat} {n0 : Nat} {w : World} (hn : n0 ≤ w.heap.size) (hL : ∀ k ∈ L, k < w.heap.size) (W : World) (l : Nat) (o o' : Obj) (hl : w.heap.size ≤ l) (h : W.heap[l]? = some o) (hc : o.isCells = false) (hw : o.isWalk = false) : KeepK L n0 W (W.putObj l o') :=
 ⟨belowK_b hn W l o o' hl h hc hw, fun k hk u hu => (World.putObj_heap_other (by have := hL k hk; omega)).trans hu⟩
/-- A slice that reads as a row does so behind the turn of a block that is no cells. -/
theorem slAt_turn {W W' : World} {row : Option Nat} {s : Sl} {sz : Nat} {ys : List Value} {no : List Nat} (h : SlAt W no s sz ys) (hg : W.grownBy W' row) (hr : ∀ r, row = some r → ∃ o : Obj, W.heap[r]? = some o ∧ o.isCells = false) : SlAt W' no s sz ys := by
 rcases h with h | ⟨b, off, cs, E, fr, hv, hb, hn, r⟩
 · exact .inl h
 · refine .inr ⟨b, off, cs, E, fr, hv, (hg.block b (getElem?_lt hb) (fun e => ?_)).trans hb, hn, r⟩
   obtain ⟨o, ho, hc⟩ := hr b e.symm
   rw [hb] at ho; cases ho; cases hc
theorem cells_turn {W W' : World} {row : Option Nat} {b : Nat} {cs : Array Value} {E : TypeId} {fr : Nat × Nat} (hb : W.heap[b]? = some (.cells cs E fr)) (hg : W.grownBy W' row) (hr : ∀ r, row = some r → ∃ o : Obj, W.heap[r]? = some o ∧ o.isCells = false) : W'.heap[b]? = some (.cells cs E fr) :=
 (hg.block b (getElem?_lt hb) (fun e => by obtain ⟨o, ho, hc⟩ := hr b e.symm; rw [hb] at ho; cases ho; cases hc)).trans hb
/-! ### A row of one's own, that an append may lengthen -/
/-- A slice that is nil, or a row that nobody else holds; 'n0': where what is new begins. -/
def OwnRow (w : World) (n0 : Nat) (no : List Nat) (s : Sl) (E : TypeId) (sz : Nat) (ys : List Value) : Prop :=
 (s = ⟨none, 0, 0⟩ ∧ ys = []) ∨ ∃ b, ∃ xs : List Value, s.a = some ⟨b, 0, none⟩ ∧ w.heap[b]? = some (.cells xs.toArray E (0, 0)) ∧ n0 ≤ b ∧ b ∉ no ∧ ys.length = s.n * sz ∧ s.n ≤ s.c ∧ xs.length = s.c * sz ∧ xs.take (s.n * sz) = ys ∧ s.c ≤ 9223372036854775807
theorem OwnRow.at_ {w : World} {n0 : Nat} {no : List Nat} {s : Sl} {E : TypeId} {sz : Nat} {ys : List Value} (h : OwnRow w n0 no s E sz ys) : SlAt w no s sz ys := by
 rcases h with h | ⟨b, xs, ha, hb, hlo, hn, hl, hnc, hxl, hx, hc⟩
 · exact .inl h
 · refine .inr ⟨b, 0, xs.toArray, E, (0, 0), ha, hb, hn, hl, hnc, fun i hi => ?_⟩
   subst hx
   rw [List.length_take] at hi
   simp
theorem OwnRow.turn {W W' : World} {row : Option Nat} {n0 : Nat} {s : Sl} {E : TypeId} {sz : Nat} {ys : List Value} {no : List Nat} (h : OwnRow W n0 no s E sz ys) (hg : W.grownBy W' row) (hr : ∀ r, row = some r → ∃ o : Obj, W.heap[r]? = some o ∧ o.isCells = false) : OwnRow W' n0 no s E sz ys := by
 rcases h with h | ⟨b, xs, ha, hb, r⟩
 · exact .inl h
 · exact .inr ⟨b, xs, ha, cells_turn hb hg hr, r⟩
theorem OwnRow.keep {W W' : World} {n0 : Nat} {s : Sl} {E : TypeId} {sz : Nat} {ys : List Value} {no : List Nat} (h : OwnRow W n0 no s E sz ys) (hk : ∀ b o, b ∉ no → W.heap[b]? = some o → W'.heap[b]? = some o) : OwnRow W' n0 no s E sz ys := by
 rcases h with h | ⟨b, xs, ha, hb, hlo, hn, r⟩
 · exact .inl h
 · exact .inr ⟨b, xs, ha, hk b _ hn hb, hlo, hn, r⟩
/-- What an append onto such a row does to the world: new blocks, or the row itself. -/
theorem run_appendOwn {P : Program} {w : World} {n0 : Nat} {no : List Nat} {t tx ty e : TypeId} {i : TypeInfo} {z : Value} (ht : P.underlying t = some (.slice e)) (hi : P.info? e = some i) (hz : i.zero = some z) (hzs : z.cells.size = i.size) (hb8 : 0 < i.bytes)
 {s : Sl} {ys : List Value} (h : OwnRow w n0 no s e i.size ys) {x : Value} {k : Nat} {news : List Value} (hs : Src P i.size tx x k news w) (hbig : (s.n + k) * i.bytes ≤ 140737488355328) (hn0 : n0 ≤ w.heap.size) (hno : ∀ b ∈ no, b < w.heap.size) (hyl : news.length = k * i.size) :
 ∃ s' w', (semB (Builtin.append_ #[t, tx] ty #[s.v, x])).run P w = .ok (.value s'.v) w' ∧ OwnRow w' n0 no s' e i.size (ys ++ news) ∧ s'.n = s.n + k ∧ (∀ b o, (∀ c, s.a = some c → b ≠ c.block) → w.heap[b]? = some o → w'.heap[b]? = some o) ∧ w.heap.size ≤ w'.heap.size ∧ Below n0 w w' ∧ KeepsOthers w w' := by
 have hgrow : s.c < s.n + k → ∃ s' w', (semB (Builtin.append_ #[t, tx] ty #[s.v, x])).run P w = .ok (.value s'.v) w' ∧ OwnRow w' n0 no s' e i.size (ys ++ news) ∧ s'.n = s.n + k ∧ (∀ b o, (∀ c, s.a = some c → b ≠ c.block) → w.heap[b]? = some o → w'.heap[b]? = some o) ∧ w.heap.size ≤ w'.heap.size ∧ Below n0 w w' ∧ KeepsOthers w w' := by
  intro hg
  have hold : (Builtin.firstCells i.size s.n s.v).run P w.drew = .ok ys.toArray w.drew := by
   rcases h with ⟨rfl, rfl⟩ | ⟨b, xs, ha, hb, hlo, hn, hl, hnc, hxl, hx, hc⟩
   · rfl
   · have := run_firstN (P := P) (w := w.drew) (b := b) (o := 0) (n := s.n) (l := s.n) (c := s.c) (sz := i.size) (xs := xs) hb (by rw [hxl, Nat.zero_add]; exact Nat.mul_le_mul_right _ hnc)
     rw [List.drop_zero, hx] at this
     rw [Sl.v, ha]; exact this
  have hlen : ys.length = s.n * i.size := by
   rcases h with ⟨rfl, rfl⟩ | ⟨b, xs, ha, hb, hlo, hn, hl, _⟩
   · simp
   · exact hl
  obtain ⟨nb, c, zs, w', hrun, hown, h1, h2, h3⟩ := run_appendGrow (P := P) (ty := ty) ht hi hz hzs hold hs hg hbig hb8
  have H0 := hown w [] ⟨[], [], []⟩ (Own.start w [] (fun _ h => nomatch h))
  have hnb := H0.has (nb, .cells (ys ++ news ++ zs).toArray e (0, 0)) (by simp)
  have hfr := H0.fresh (nb, .cells (ys ++ news ++ zs).toArray e (0, 0)) (by simp)
  have hbel := H0.below
  refine ⟨⟨some ⟨nb, 0, none⟩, s.n + k, c⟩, w', hrun, .inr ⟨nb, ys ++ news ++ zs, rfl, hnb, Nat.le_trans hn0 hfr, fun hm => by have := hno nb hm; simp at hfr; omega, ?_, h1, ?_, ?_, h2⟩, rfl, fun b o _ hb => by rw [hbel.block _ (getElem?_lt hb)]; exact hb, hbel.size, hbel.mono hn0, ⟨hbel.size, fun b o hb _ => by rw [hbel.block _ (getElem?_lt hb)]; exact hb⟩⟩
  · rw [List.length_append, hlen, hyl, Nat.add_mul]
  · show (ys ++ news ++ zs).length = c * i.size
    have : (s.n + k) * i.size ≤ c * i.size := Nat.mul_le_mul_right _ h1
    rw [List.length_append, List.length_append, hlen, hyl, h3, Nat.sub_mul, ← Nat.add_mul]; omega
  · show (ys ++ news ++ zs).take ((s.n + k) * i.size) = _
    rw [List.take_left' (by rw [List.length_append, hlen, hyl, Nat.add_mul])]
 rcases Nat.lt_or_ge s.c (s.n + k) with hg | hroom
 · exact hgrow hg
 · rcases h with ⟨rfl, rfl⟩ | ⟨b, xs, ha, hb, hlo, hn, hl, hnc, hxl, hx, hc⟩
   · have hk0 : k = 0 := by simp at hroom; exact hroom
     subst hk0
     have : news = [] := List.eq_nil_of_length_eq_zero (by rw [hyl]; simp)
     subst this
     exact ⟨⟨none, 0, 0⟩, w, run_appendNone (P := P) ht hi none (Nat.le_refl 0) hs, .inl ⟨rfl, rfl⟩, rfl, fun _ _ _ h => h, Nat.le_refl _, Below.refl _ _, KeepsOthers.refl _⟩
   · have hfit : s.n * i.size + news.length ≤ xs.length := by
       rw [hyl, hxl, ← Nat.add_mul]; exact Nat.mul_le_mul_right _ hroom
     have hrun := run_appendRoom (P := P) (ty := ty) ht hi (b := b) (off := 0) hs hroom hb (by rw [Nat.zero_add]; exact hfit)
     rw [Nat.zero_add] at hrun
     refine ⟨⟨some ⟨b, 0, none⟩, s.n + k, s.c⟩, w.setRow b (over xs (s.n * i.size) news).toArray, ?_, .inr ⟨b, over xs (s.n * i.size) news, rfl, setRow_heap w b _ _ _ _ hb, hlo, hn, ?_, hroom, ?_, ?_, hc⟩, rfl, fun b' o hne hb' => ?_, ?_, ⟨rfl, rfl, rfl, ?_, fun k' hk' => ?_⟩, ⟨?_, fun k' o hk' ho => ?_⟩⟩
     · rw [Sl.v, ha]; exact hrun
     · rw [List.length_append, hl, hyl, Nat.add_mul]
     · rw [over_length hfit, hxl]
     · show (over xs (s.n * i.size) news).take ((s.n + k) * i.size) = ys ++ news
       unfold over
       rw [hx, List.take_left' (by rw [List.length_append, hl, hyl, Nat.add_mul])]
     · have := hne ⟨b, 0, none⟩ ha
       rw [heap_setRow _ _ _ this]; exact hb'
     · simp [World.setRow]
     · simp [World.setRow]
     · rw [heap_setRow _ _ _ ko]
     · simp [World.setRow]
     · by_cases e : k' = b
       · subst e; rw [hb] at hk'; cases hk'; cases ho
       · rw [heap_setRow _ _ _ e]; exact hk'
end Go.Proofs.YtfkmcdkncmapmaaGreatDoor.SX
set_option linter.unusedVariables false
set_option linter.unusedSimpArgs false
namespace Go.Proofs.YtfkmcdkncmapmaaGreatDoor.SX
open Go Go.RowKit
section
variable {P : Program} {w0 w : World} {bs : Boxes} {ro : Rd}
theorem slAt_first {no : List Nat} {s : Sl} {sz : Nat} {ys : List Value} (h : SlAt w no s sz ys) (k : Nat) : (Builtin.firstCells sz s.n (.slice s.a s.n k)).run P w = .ok ys.toArray w := by
 rcases h with ⟨rfl, rfl⟩ | ⟨b, off, cs, E, fr, ha, hb, hn, hl, hc, hcs⟩
 · simp only [Builtin.firstCells, Nat.zero_mul] <;> rfl
 · rw [ha]
   refine run_firstCells_some w sz s.n ⟨b, off, none⟩ s.n k ys hl fun j u hu => ?_
   obtain ⟨hj, rfl⟩ := List.getElem?_eq_some_iff.1 hu
   rw [add_eq]
   exact cell_of hb (hcs j hj)
theorem slAt_cut {no : List Nat} {s : Sl} {sz : Nat} {ys : List Value} (h : SlAt w no s sz ys) : SlAt w no ⟨s.a, s.n, s.n⟩ sz ys := by
 rcases h with ⟨rfl, rfl⟩ | ⟨b, off, cs, E, fr, ha, hb, hn, hl, hc, hcs⟩
 · exact .inl ⟨rfl, rfl⟩
 · exact .inr ⟨b, off, cs, E, fr, ha, hb, hn, hl, Nat.le_refl _, hcs⟩
theorem slAt_spot {no : List Nat} {s : Sl} {sz : Nat} {ys : List Value} (h : SlAt w no s sz ys) : s.a.map (·.add 0) = s.a := by
 rcases h with ⟨rfl, _⟩ | ⟨b, off, cs, E, fr, ha, _⟩
 · rfl
 · rw [ha]; simp [add_eq]
theorem run_sub03 {no : List Nat} {s : Sl} {sz' : Nat} {ys : List Value} (h0 : SlAt w no s sz' ys) {T E : TypeId} {sz : Nat} (hu : P.underlying T = some (.slice E)) (hs : (sizeOf E).run P w = .ok sz w) {k' k'' : IntKind} (h m : Nat) (h2 : h ≤ m) (h3 : m ≤ s.c) :
 (semSlice T s.v none (some (.int k' (h : Int))) (some (.int k'' (m : Int)))).run P w = .ok (.value (.slice s.a h m)) w := by
 unfold semSlice Instr.sliceAt Instr.slice
 have e0 : (0 : Int) ≤ (m : Int) ∧ (m : Int) ≤ (s.c : Int) := ⟨Int.natCast_nonneg _, Int.ofNat_le.2 h3⟩
 have e1 : (0 : Int) ≤ (h : Int) ∧ (h : Int) ≤ (m : Int) := ⟨Int.natCast_nonneg _, Int.ofNat_le.2 h2⟩
 have hsp := slAt_spot h0
 simp only [Sem.run_bind, run_und hu, Result.andThen_ok, Instr.sliceBounds, Instr.sliceBound, asIntOf, Sem.run_pure, if_pos e0, if_pos e1, hs, Int.toNat_natCast, Nat.zero_mul, Nat.sub_zero, hsp, ite_self]
theorem run_app2 {α : Type} {f : α → List Value} {sz : Nat} (hf : ∀ x, (f x).length = sz) (hsz : 0 < sz) (h1 : ∀ (l : List α), ∀ u ∈ l.flatMap f, u.oneCell' = true) {t ty e : TypeId} {i : TypeInfo} {z : Value} (ht : P.underlying t = some (.slice e)) (hi : P.info? e = some i) (hz : i.zero = some z) (hzs : z.cells.size = i.size) (hb8 : 0 < i.bytes) (his : i.size = sz)
 (H : Own w0 w bs ro) (s s' : Sl) (l l' : List α) (hs : SlAt w (nos H) s sz (l.flatMap f)) (hs' : SlAt w (nos H) s' sz (l'.flatMap f)) (hbig : (l.length + l'.length) * i.bytes ≤ 140737488355328) :
 ∃ z w', (semB (Builtin.append_ #[t, t] ty #[.slice s.a s.n s.n, s'.v])).run P w = .ok (.value z.v) w' ∧ Own w0 w' bs ⟨slF z sz ((l ++ l').flatMap f) :: ro.sl, ro.fb, ro.no⟩ := by
 subst his
 have hn := SlAt.count hf hsz hs
 have hn' := SlAt.count hf hsz hs'
 have hsrc := SlAt.src (P := P) (SlAt.any hs') (tx := t) ht (h1 l')
 by_cases h0 : s'.n = 0
 · have hl0 : l' = [] := List.eq_nil_of_length_eq_zero (by rw [← hn']; exact h0)
   rw [h0, hl0] at hsrc
   refine ⟨⟨s.a, s.n, s.n⟩, w, run_appendNone (P := P) ht hi s.a (Nat.le_refl _) hsrc, ?_⟩
   rw [hl0, List.append_nil]
   exact H.learn _ (slAt_cut hs)
 · obtain ⟨nb, k, zs, w1, hrun, hown, hk1, hk2, hzl⟩ := run_appendGrow (P := P) (ty := ty) (tx := t) (sLen := s.n) (sCap := s.n) ht hi hz hzs (base := s.a) (olds := l.flatMap f) (slAt_first (w := w.drew) (SlAt.keep hs (fun b o hn hb => ⟨hn, hb⟩) : SlAt w.drew (nos H) s i.size (l.flatMap f)) s.n) hsrc ko (by rw [hn, hn']; exact hbig) hb8
   refine ⟨⟨some ⟨nb, 0, none⟩, s.n + s'.n, k⟩, w1, hrun, ?_⟩
   have H := (hown _ _ _ H).rot
   refine H.give _ fun no hno hw => ?_
   have hlen : ((l ++ l').flatMap f).length = (s.n + s'.n) * i.size := by rw [flat_len f _ hf, List.length_append, ← hn, ← hn']
   refine .inr ⟨nb, 0, (l.flatMap f ++ l'.flatMap f ++ zs).toArray, e, (0, 0), rfl, hw, hno, hlen, hk1, fun j hj => ?_⟩
   rw [Nat.zero_add, List.getElem?_toArray, ← List.flatMap_append, List.getElem?_append_left hj, List.getElem?_eq_getElem hj]
end
end Go.Proofs.YtfkmcdkncmapmaaGreatDoor.SX
