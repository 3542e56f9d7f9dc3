/- Regions that draw their order, by the kernel's own reckoning: what only looks is taken first, what acts comes up alone. -/
import Derived.Test.YtfkmcdkncmapmaaGreatDoorY00
import Derived.OrdersHeld
import Derived.LoopN
import Derived.Laws.StructEq
import Derived.IntWalk
import Derived.Laws.Bits64
set_option linter.unusedVariables false
set_option linter.unusedSimpArgs false
namespace Go.Proofs.YtfkmcdkncmapmaaGreatDoor.SX
open Go Go.RowKit
section
variable {P : Program} {ops : Array Oper} {Q : Exit → Act → World → Prop} {md : Region.Mode} {S : World → Prop} {c : Nat}
/-- Whatever order is picked from here on; till operation 'c' has come up 'S' holds behind each. -/
def wpAnyC (P : Program) (md : Region.Mode) (ops : Array Oper) (Q : Exit → Act → World → Prop) (c : Nat) (S : World → Prop) : Nat → Array Bool → Act → World → Prop
  | 0, listed, a, w => Region.ready md ops listed = [] ∧ Q .normal a w
  | fuel + 1, listed, a, w =>
    (Region.ready md ops listed = [] → Q .normal a w) ∧
    ∀ i ∈ Region.ready md ops listed, wpOp P ops Q i (fun a' w' => ((listed.setIfInBounds i true).getD c false = false → S w') ∧ wpAnyC P md ops Q c S fuel (listed.setIfInBounds i true) a' w') a w
theorem wpAny_of_C : ∀ (fuel : Nat) (listed : Array Bool) (a : Act) (w : World), wpAnyC P md ops Q c S fuel listed a w → wpAny P md ops Q fuel listed a w
  | 0, _, _, _, h => h
  | fuel + 1, _, _, _, h => ⟨h.1, fun i hi => wpOp_mono (fun a' w' h' => wpAny_of_C fuel _ a' w' h'.2) (h.2 i hi)⟩
theorem getD_set_other {listed : Array Bool} {i j : Nat} (h : i ≠ j) : (listed.setIfInBounds i true).getD j false = listed.getD j false := getD_set_ne false h
/-- An operation that yields its value in every world that meets S may be taken first, if 'c' waits for it. -/
theorem wpAnyC_first {i : Nat} {oi : Oper} {v : Value} (hi : ops[i]? = some oi) (hsel : ∀ (j : Nat) (o : Oper) cs b, ops[j]? = some o → o.op ≠ .select cs b)
    (hic : i ≠ c) (hcw : ∀ oc, ops[c]? = some oc → ∃ e ∈ oc.after, Region.binds md e = true ∧ e.on = i) (hQ : ∀ ch a w, Q (.panic ch) (a.put oi.dst v) w → Q (.panic ch) a w) :
    ∀ (fuel : Nat) (listed : Array Bool) (a : Act) (w : World),
      (∀ j oj, ops[j]? = some oj → j ≠ i → listed.getD j true = false → (∀ e ∈ oj.after, Region.binds md e = true → e.on ≠ i) → oi.apart ops oj = true) →
      i ∈ Region.ready md ops listed → listed.getD c false = false → YieldsIf P ops S oi v a → S w →
      wpAnyC P md ops Q c S fuel (listed.setIfInBounds i true) (a.put oi.dst v) w → wpAnyC P md ops Q c S (fuel + 1) listed a w := by
  intro fuel
  induction fuel with
  | zero =>
    intro listed a w _ hr hcl hy hS H
    refine ⟨fun h => (by rw [h] at hr; cases hr), fun j hj => ?_⟩
    by_cases hji : j = i
    · subst hji; exact hy.wpOp hi hS ⟨fun _ => hS, H⟩
    · have := ready_mono hj hji
      rw [H.1] at this
      cases this
  | succ fuel ih =>
    intro listed a w hfree hr hcl hy hS H
    refine ⟨fun h => (by rw [h] at hr; cases hr), fun j hj => ?_⟩
    by_cases hji : j = i
    · subst hji; exact hy.wpOp hi hS ⟨fun _ => hS, H⟩
    · have h1 := H.2 j (ready_mono hj hji)
      obtain ⟨hjun, oj, hoj, hall⟩ := mem_ready.1 hj
      have hnot : ∀ e ∈ oj.after, Region.binds md e = true → e.on ≠ i := fun e he hb heq => by
        have h1 := hall e he hb
        have h0 := (mem_ready.1 hr).1
        rw [heq] at h1
        rcases Nat.lt_or_ge i listed.size with h' | h'
        · simp [h'] at h0 h1; rw [h0] at h1; cases h1
        · simp [Array.getElem?_eq_none h'] at h1
      have hjc : j ≠ c := fun e => by
        subst e
        obtain ⟨e, he, hb, hei⟩ := hcw oj hoj
        exact hnot e he hb hei
      have h2 := wpOp_putIf hoj (hfree j oj hoj hji hjun hnot) (fun cs b => hsel i oi cs b hi) (fun cs b => hsel j oj cs b hoj) hQ hy h1
      have hfree' : ∀ k ok, ops[k]? = some ok → k ≠ i → (listed.setIfInBounds j true).getD k true = false →
          (∀ e ∈ ok.after, Region.binds md e = true → e.on ≠ i) → oi.apart ops ok = true := fun k ok hk hki hun hno => by
        refine hfree k ok hk hki ?_ hno
        by_cases hjk : j = k
        · subst hjk; exact hjun
        · rw [getD_set_ne true hjk] at hun; exact hun
      have hcl' : (listed.setIfInBounds j true).getD c false = false := by rw [getD_set_other hjc]; exact hcl
      refine wpOp_mono (fun a' w' h3 => ?_) h2
      have hS' : S w' := h3.2.1 (by rw [getD_set_other hjc, getD_set_other hic]; exact hcl)
      refine ⟨fun _ => hS', ih (listed.setIfInBounds j true) a' w' hfree' (ready_mono hr (Ne.symm hji)) hcl' h3.1 hS' ?_⟩
      rw [Array.setIfInBounds_comm _ _ hji]
      exact h3.2.2
/-- .. and one that looks at no world at any time. -/
theorem wpAnyC_firstY {i : Nat} {oi : Oper} {v : Value} (hi : ops[i]? = some oi) (hsel : ∀ (j : Nat) (o : Oper) cs b, ops[j]? = some o → o.op ≠ .select cs b)
    (hic : i ≠ c) (hQ : ∀ ch a w, Q (.panic ch) (a.put oi.dst v) w → Q (.panic ch) a w) :
    ∀ (fuel : Nat) (listed : Array Bool) (a : Act) (w : World),
      (∀ j oj, ops[j]? = some oj → j ≠ i → listed.getD j true = false → (∀ e ∈ oj.after, Region.binds md e = true → e.on ≠ i) → oi.apart ops oj = true) →
      i ∈ Region.ready md ops listed → Yields P ops oi v a → (listed.getD c false = false → S w) →
      wpAnyC P md ops Q c S fuel (listed.setIfInBounds i true) (a.put oi.dst v) w → wpAnyC P md ops Q c S (fuel + 1) listed a w := by
  intro fuel
  induction fuel with
  | zero =>
    intro listed a w _ hr hy hS H
    refine ⟨fun h => (by rw [h] at hr; cases hr), fun j hj => ?_⟩
    by_cases hji : j = i
    · subst hji; exact hy.wpOp hi ⟨fun h => hS (by rw [getD_set_other hic] at h; exact h), H⟩
    · have := ready_mono hj hji
      rw [H.1] at this
      cases this
  | succ fuel ih =>
    intro listed a w hfree hr hy hS H
    refine ⟨fun h => (by rw [h] at hr; cases hr), fun j hj => ?_⟩
    by_cases hji : j = i
    · subst hji; exact hy.wpOp hi ⟨fun h => hS (by rw [getD_set_other hic] at h; exact h), H⟩
    · have h1 := H.2 j (ready_mono hj hji)
      obtain ⟨hjun, oj, hoj, hall⟩ := mem_ready.1 hj
      have hnot : ∀ e ∈ oj.after, Region.binds md e = true → e.on ≠ i := fun e he hb heq => by
        have h1 := hall e he hb
        have h0 := (mem_ready.1 hr).1
        rw [heq] at h1
        rcases Nat.lt_or_ge i listed.size with h' | h'
        · simp [h'] at h0 h1; rw [h0] at h1; cases h1
        · simp [Array.getElem?_eq_none h'] at h1
      have h2 := wpOp_put hoj (hfree j oj hoj hji hjun hnot) (fun cs b => hsel i oi cs b hi) (fun cs b => hsel j oj cs b hoj) hQ hy h1
      have hfree' : ∀ k ok, ops[k]? = some ok → k ≠ i → (listed.setIfInBounds j true).getD k true = false →
          (∀ e ∈ ok.after, Region.binds md e = true → e.on ≠ i) → oi.apart ops ok = true := fun k ok hk hki hun hno => by
        refine hfree k ok hk hki ?_ hno
        by_cases hjk : j = k
        · subst hjk; exact hjun
        · rw [getD_set_ne true hjk] at hun; exact hun
      refine wpOp_mono (fun a' w' h3 => ?_) h2
      have hS' : (listed.setIfInBounds j true).getD c false = false → S w' := fun h => h3.2.1 (by
        have := getD_set_other (listed := listed.setIfInBounds j true) hic
        rw [Array.setIfInBounds_comm _ _ (Ne.symm hji), this]; exact h)
      refine ⟨hS', ih (listed.setIfInBounds j true) a' w' hfree' (ready_mono hr (Ne.symm hji)) h3.1 hS' ?_⟩
      rw [Array.setIfInBounds_comm _ _ hji]
      exact h3.2.2
end
/-- The boxes that must stay as they are. -/
def Keeps (fb kb : Boxes) (sl : List Fact) (w : World) : Prop := (∀ p ∈ kb, w.heap[p.1]? = some p.2) ∧ (∀ p ∈ fb, w.heap[p.1]? = some p.2) ∧ ∀ F ∈ sl, F.P w []
theorem Keeps.fact {fb kb : Boxes} {sl : List Fact} {w : World} (h : Keeps fb kb sl w) (i : Nat) (F : Fact) (hi : (sl[i]?).map Fact.P = some F.P) : F.P w [] := by
  cases hx : sl[i]? with
  | none => rw [hx] at hi; cases hi
  | some r =>
    rw [hx] at hi
    simp only [Option.map_some, Option.some.injEq] at hi
    rw [← hi]
    exact h.2.2 r (List.mem_of_getElem? hx)
/-- One that only looks: 'none': at nothing, 'some j': at the j-th of the boxes that stay. -/
def stepT (P : Program) (fb : Boxes) (ops : Array Oper) (n : Nat) (i : Nat) (j : Option Nat) (e : Env) (kb : Boxes) (se : Seen) : Option (Env × Seen) :=
  match ops[i]? with
  | none => none
  | some o => match wantedE ops e o with
    | none => none
    | some false => (bindE n o.dst undef e).map fun e' => (e', se)
    | some true =>
      bif isSel o.op || !o.op.operands.toList.all (known e) then none else
      match runR P (match j with | none => [] | some _ => fb) (j.getD 0) (execOp (rho e) o) (match j with | none => [] | some _ => kb) se with
      | some (.value v, se') => (bindE n o.dst v e).map fun e' => (e', se')
      | _ => none
def runT (P : Program) (fb : Boxes) (ops : Array Oper) (n : Nat) : List (Nat × Option Nat) → Env → Boxes → Seen → Option (Env × Seen)
  | [], e, kb, se => some (e, se)
  | p :: l, e, kb, se => match stepT P fb ops n p.1 p.2 e kb se with
    | none => none
    | some (e', se') => runT P fb ops n l e' kb se'
theorem stepT_seen {P : Program} {fb : Boxes} {ops : Array Oper} {n i : Nat} {j : Option Nat} {e : Env} {kb : Boxes} {se : Seen} {r : Env × Seen} (h : stepT P fb ops n i j e kb se = some r) : ∀ p ∈ se, p ∈ r.2 := by
  unfold stepT at h
  split at h
  · cases h
  · split at h
    · cases h
    · obtain ⟨e', _, rfl⟩ := Option.map_eq_some_iff.1 h
      exact fun p hp => hp
    · cases hc : (isSel _ || !List.all _ (known e)) with
      | true => rw [hc] at h; cases h
      | false =>
        rw [hc] at h
        simp only [cond_false] at h
        split at h
        · rename_i hr
          obtain ⟨e', _, rfl⟩ := Option.map_eq_some_iff.1 h
          exact fun p hp => runR_seen _ _ _ _ _ _ _ hr p hp
        · cases h
theorem runT_seen {P : Program} {fb : Boxes} {ops : Array Oper} {n : Nat} : ∀ (l : List (Nat × Option Nat)) {e : Env} {kb : Boxes} {se : Seen} {r : Env × Seen}, runT P fb ops n l e kb se = some r → ∀ p ∈ se, p ∈ r.2
  | [], e, kb, se, r, h => by simp only [runT, Option.some.injEq] at h; subst h; exact fun p hp => hp
  | q :: l, e, kb, se, r, h => by
    simp only [runT] at h
    split at h
    · cases h
    · rename_i hs
      exact fun p hp => runT_seen l h p (stepT_seen hs p hp)
/-- What must be seen of the operations' edges, for a row of takes. -/
def takesOK (ops : Array Oper) (c : Nat) : List (Nat × Option Nat) → Array Bool → Bool
  | [], _ => true
  | p :: l, listed =>
    (Region.ready .any ops listed).contains p.1 && Region.free .any ops listed p.1 && !(Nat.beq p.1 c) &&
    (match p.2 with
     | none => true
     | some _ => !listed.getD c false && (match ops[c]? with | none => true | some oc => oc.after.toList.any fun e => Region.binds .any e && Nat.beq e.on p.1)) &&
    takesOK ops c l (listed.setIfInBounds p.1 true)
def mark (l : List (Nat × Option Nat)) (listed : Array Bool) : Array Bool := l.foldl (fun b p => b.setIfInBounds p.1 true) listed
section
variable {P : Program} {Q : Exit → Act → World → Prop} {n : Nat} {w0 : World} {ro : Rd} {e : Env} {bs : Boxes} {a : Act} {w : World} {ops : Array Oper} {c : Nat} {kb : Boxes} {sl0 : List Fact} {fb0 : Boxes} {fuel : Nat} {listed : Array Bool}
theorem stepT_yields {fb : Boxes} {i : Nat} {j : Option Nat} {se : Seen} {r : Env × Seen} {oi : Oper} (hi : ops[i]? = some oi) (h : stepT P fb ops n i j e kb se = some r) (hse : ∀ p ∈ r.2, p.1 = p.2) (A : Agrees n a e) :
    ∃ v, Agrees n (a.put oi.dst v) r.1 ∧ YieldsIf P ops (Keeps fb kb sl0) oi v a ∧ (j = none → Yields P ops oi v a) := by
  unfold stepT at h
  simp only [hi] at h
  split at h
  · cases h
  · rename_i hw
    obtain ⟨e', he, rfl⟩ := Option.map_eq_some_iff.1 h
    exact ⟨undef, bindE_sound A he, .inr ⟨wantedE_sound A hw, rfl⟩, fun _ => .inr ⟨wantedE_sound A hw, rfl⟩⟩
  · rename_i hw
    cases hc : (isSel oi.op || !List.all _ (known e)) with
    | true => rw [hc] at h; cases h
    | false =>
      rw [hc] at h
      simp only [cond_false] at h
      simp only [Bool.or_eq_false_iff, Bool.not_eq_false'] at hc
      split at h
      · rename_i v se' hr
        obtain ⟨e', he, rfl⟩ := Option.map_eq_some_iff.1 h
        refine ⟨v, bindE_sound A he, .inl ⟨wantedE_sound A hw, fun w' hS => ?_⟩, fun hj => .inl ⟨wantedE_sound A hw, fun w' => ?_⟩⟩
        · rw [execOp_env A hc.2 (not_sel hc.1)]
          cases j with
          | none => exact runR_sound P _ (bs := []) (fb := []) (fun _ h => nomatch h) (fun _ h => nomatch h) _ _ _ hr hse
          | some j => exact runR_sound P _ (bs := kb) (fb := fb) hS.1 hS.2.1 _ _ _ hr hse
        · subst hj
          rw [execOp_env A hc.2 (not_sel hc.1)]
          exact runR_sound P _ (bs := []) (fb := []) (fun _ h => nomatch h) (fun _ h => nomatch h) _ _ _ hr hse
      · cases h
theorem takes_run {fb : Boxes} (hs : Region.noSelect ops = true) (hQ : ∀ ch a d v w, Q (.panic ch) (a.put d v) w → Q (.panic ch) a w) : ∀ (l : List (Nat × Option Nat)) {e : Env} {se : Seen} {r : Env × Seen} {listed : Array Bool} {a : Act} {fuel : Nat}, takesOK ops c l listed = true → runT P fb ops n l e kb se = some r → (∀ p ∈ r.2, p.1 = p.2) → Agrees n a e →
    (listed.getD c false = false → Keeps fb kb sl0 w) → (∀ a', Agrees n a' r.1 → wpAnyC P .any ops Q c (Keeps fb kb sl0) fuel (mark l listed) a' w) → wpAnyC P .any ops Q c (Keeps fb kb sl0) (fuel + l.length) listed a w
  | [], e, se, r, listed, a, fuel, _, h, _, A, _, K => by simp only [runT, Option.some.injEq] at h; subst h; exact K a A
  | q :: l, e, se, r, listed, a, fuel, hok, h, hse, A, hS, K => by
    simp only [runT] at h
    split at h
    · cases h
    · rename_i e' se' hst
      simp only [takesOK, Bool.and_eq_true] at hok
      obtain ⟨⟨⟨⟨hrd, hfr⟩, hne⟩, hcw⟩, hrest⟩ := hok
      have hrd' : q.1 ∈ Region.ready .any ops listed := by simpa using hrd
      obtain ⟨_, oi, hi, _⟩ := mem_ready.1 hrd'
      have hic : q.1 ≠ c := Nat.ne_of_beq_eq_false (by simpa using hne)
      obtain ⟨v, A', hyi, hy⟩ := stepT_yields hi hst (fun p hp => hse p (runT_seen l h p hp)) A
      have hnext : wpAnyC P .any ops Q c (Keeps fb kb sl0) (fuel + l.length) (listed.setIfInBounds q.1 true) (a.put oi.dst v) w :=
        takes_run hs hQ l hrest h hse A' (fun h => hS (by rw [getD_set_other hic] at h; exact h)) K
      rw [List.length_cons, ← Nat.add_assoc]
      cases hq : q.2 with
      | none => exact wpAnyC_firstY hi (Region.noSelect_spec hs) hic (fun _ _ _ h => hQ _ _ _ _ _ h) _ _ _ _ (Region.free_spec hi hfr) hrd' (hy hq) hS hnext
      | some j =>
        rw [hq] at hcw
        simp only [Bool.and_eq_true, Bool.not_eq_true'] at hcw
        refine wpAnyC_first hi (Region.noSelect_spec hs) hic (fun oc hoc => ?_) (fun _ _ _ h => hQ _ _ _ _ _ h) _ _ _ _ (Region.free_spec hi hfr) hrd' hcw.1 hyi (hS hcw.1) hnext
        have h2 := hcw.2
        rw [hoc] at h2
        simp only [List.any_eq_true] at h2
        obtain ⟨ed, hed, hb⟩ := h2
        simp only [Bool.and_eq_true] at hb
        exact ⟨ed, Array.mem_toList_iff.1 hed, hb.1, Nat.eq_of_beq_eq_true hb.2⟩
def afterT (r : Option (Env × Seen)) : Env × Seen := r.getD ([], [])
def picks (idx : List Nat) (bs : Boxes) : Boxes := idx.filterMap (bs[·]?)
/-- **BEGIN**: 'idx': which boxes stay till 'c' has come up. -/
theorem drawn {id : Nat} (c : Nat) (idx : List Nat) (hm : P.follows .mixedOrders = true) (A : Agrees n a e) (H : Own w0 w bs ro)
    (K : ∀ w', Own w0 w' bs ro → wpAnyC P .any ops Q c (Keeps ro.fb (picks idx bs) ro.sl) ops.size (Array.replicate ops.size false) a w') : (Code.region id ops true).wp P Q a w :=
  wp_region_any hm (wpAny_of_C _ _ _ _ (K _ H.drew))
theorem keeps_as {idx : List Nat} (k : Nat) (H : Own w0 w bs ro) (hk : idx.map (bs[·]?) = kb.map some) (hfs : ro.sl.drop k = sl0) (hfb0 : ro.fb = fb0) : Keeps fb0 kb sl0 w := by
  subst hfb0
  refine ⟨fun p hp => ?_, fun p hp => (H.hfb p hp).1, fun F hF => F.st _ _ _ _ (fun _ _ _ hb => ⟨List.not_mem_nil, hb⟩) (H.hro F (List.mem_of_mem_drop (by rw [hfs]; exact hF)))⟩
  have : some p ∈ idx.map (bs[·]?) := by rw [hk]; exact List.mem_map_of_mem hp
  obtain ⟨i, _, hi⟩ := List.mem_map.1 this
  exact H.has p (List.mem_of_getElem? hi)
theorem keeps_of {idx : List Nat} {k : Nat} (H : Own w0 w bs ro) (hk : idx.map (bs[·]?) = kb.map some) (hfs : ro.sl.drop k = sl0) : Keeps ro.fb kb sl0 w := keeps_as k H hk hfs rfl
/-- **TAKE FIRST** those that only look. -/
theorem takes (idx : List Nat) (l : List (Nat × Option Nat)) (A : Agrees n a e) (H : Own w0 w bs ro) (hs : Region.noSelect ops = true) (hQ : ∀ ch a d v w, Q (.panic ch) (a.put d v) w → Q (.panic ch) a w)
    (hf : fuel = (fuel - l.length) + l.length) (hok : takesOK ops c l listed = true)
    (hr : (runT P ro.fb ops n l e kb []).map (fun r => r.2.map (·.1)) = some ((afterT (runT P ro.fb ops n l e kb [])).2.map (·.2)))
    (hk : idx.map (bs[·]?) = kb.map some ∨ listed.getD c false = true)
    (K : ∀ a', Agrees n a' (afterT (runT P ro.fb ops n l e kb [])).1 → wpAnyC P .any ops Q c (Keeps fb0 kb sl0) (fuel - l.length) (mark l listed) a' w) (k : Nat := 0) (hfs : ro.sl.drop k = sl0 := by kernel_rfl) (hfb0 : ro.fb = fb0 := by kernel_rfl) : wpAnyC P .any ops Q c (Keeps fb0 kb sl0) fuel listed a w := by
  subst hfb0
  rw [hf]
  cases hx : runT P ro.fb ops n l e kb [] with
  | none => rw [hx] at hr; cases hr
  | some r =>
    rw [hx] at hr K
    refine takes_run hs hQ l hok hx (seen_eq (l := r.2) (by simpa [afterT] using hr)) A (fun h => ?_) K
    rcases hk with hk | hk
    · exact keeps_of H hk hfs
    · rw [hk] at h; cases h
/-- **TAKE FIRST** one that only looks, whose value is shown by hand. -/
theorem takeG (i : Nat) (idx : List Nat) {s : Sem Next} {v : Value} (A : Agrees n a e) (H : Own w0 w bs ro) (hs : Region.noSelect ops = true) (hQ : ∀ ch a d v w, Q (.panic ch) (a.put d v) w → Q (.panic ch) a w)
    (hrun : ∀ w', Keeps fb0 kb sl0 w' → s.run P w' = .ok (.value v) w') (hx : operOf P ops e [i] = some s) (hd : (bindE n (dstOf ops [i]) undef e).isSome = true)
    (hf : fuel = (fuel - 1) + 1) (hok : takesOK ops c [(i, some 0)] listed = true) (hk : idx.map (bs[·]?) = kb.map some)
    (K : ∀ a', Agrees n a' (put1 n ops [i] v e) → wpAnyC P .any ops Q c (Keeps fb0 kb sl0) (fuel - 1) (listed.setIfInBounds i true) a' w) (k : Nat := 0) (hfs : ro.sl.drop k = sl0 := by kernel_rfl) (hfb0 : ro.fb = fb0 := by kernel_rfl) : wpAnyC P .any ops Q c (Keeps fb0 kb sl0) fuel listed a w := by
  subst hfb0
  rw [hf]
  simp only [takesOK, Bool.and_eq_true] at hok
  obtain ⟨⟨⟨⟨hrd, hfr⟩, hne⟩, hcw⟩, _⟩ := hok
  have hrd' : i ∈ Region.ready .any ops listed := by simpa using hrd
  obtain ⟨_, oi, hi, _⟩ := mem_ready.1 hrd'
  have hic : i ≠ c := Nat.ne_of_beq_eq_false (by simpa using hne)
  simp only [Bool.and_eq_true, Bool.not_eq_true'] at hcw
  have hy : YieldsIf P ops (Keeps ro.fb kb sl0) oi v a := by
    unfold operOf at hx
    simp only [hi] at hx
    split at hx
    · rename_i hw
      cases hc' : (isSel oi.op || !List.all _ (known e)) with
      | true => rw [hc'] at hx; cases hx
      | false =>
        rw [hc'] at hx
        simp only [cond_false, Option.some.injEq] at hx
        simp only [Bool.or_eq_false_iff, Bool.not_eq_false'] at hc'
        refine .inl ⟨wantedE_sound A hw, fun w' hS => ?_⟩
        rw [execOp_env A hc'.2 (not_sel hc'.1), hx]
        exact hrun w' hS
    · cases hx
  have A' : Agrees n (a.put oi.dst v) (put1 n ops [i] v e) := by
    have := bind_put A hd v
    simp only [dstOf, hi, Option.bind_some] at this
    exact this
  refine wpAnyC_first hi (Region.noSelect_spec hs) hic (fun oc hoc => ?_) (fun _ _ _ h => hQ _ _ _ _ _ h) _ _ _ _ (Region.free_spec hi hfr) hrd' hcw.1 hy (keeps_of H hk hfs) (K _ A')
  have h2 := hcw.2
  rw [hoc] at h2
  simp only [List.any_eq_true] at h2
  obtain ⟨ed, hed, hb⟩ := h2
  simp only [Bool.and_eq_true] at hb
  exact ⟨ed, Array.mem_toList_iff.1 hed, hb.1, Nat.eq_of_beq_eq_true hb.2⟩
/-- One operation comes up, of those that may. -/
def OpC (P : Program) (ops : Array Oper) (Q : Exit → Act → World → Prop) (c : Nat) (S : World → Prop) (fuel : Nat) (listed : Array Bool) (i : Nat) (a : Act) (w : World) : Prop :=
  wpOp P ops Q i (fun a' w' => ((listed.setIfInBounds i true).getD c false = false → S w') ∧ wpAnyC P .any ops Q c S (fuel - 1) (listed.setIfInBounds i true) a' w') a w
theorem opC_one {i : Nat} {S : World → Prop} (hrd : Region.ready .any ops listed = [i]) (hf : fuel = (fuel - 1) + 1) (h : OpC P ops Q c S fuel listed i a w) : wpAnyC P .any ops Q c S fuel listed a w := by
  rw [hf]
  exact ⟨fun h0 => (by rw [h0] at hrd; cases hrd), fun j hj => by rw [hrd] at hj; obtain rfl := List.mem_singleton.1 hj; exact h⟩
def AllC (l : List Nat) (F : Nat → Prop) : Prop := ∀ i ∈ l, F i
theorem allC_nil {F : Nat → Prop} : AllC [] F := fun _ h => nomatch h
theorem allC_cons {F : Nat → Prop} {i : Nat} {l : List Nat} (h : F i) (hl : AllC l F) : AllC (i :: l) F := fun j hj => by
  rcases List.mem_cons.1 hj with rfl | hj
  · exact h
  · exact hl j hj
/-- Several may come up. -/
theorem many {S : World → Prop} (i : Nat) (l : List Nat) (hrd : Region.ready .any ops listed = i :: l) (hf : fuel = (fuel - 1) + 1) (h : AllC (i :: l) fun j => OpC P ops Q c S fuel listed j a w) : wpAnyC P .any ops Q c S fuel listed a w := by
  rw [hf]
  exact ⟨fun h0 => (by rw [h0] at hrd; cases hrd), fun j hj => by rw [hrd] at hj; exact h j hj⟩
/-- What holds where the orders meet again. -/
theorem joinD {S : World → Prop} (J : Act → World → Prop) (fuel' : Nat) (listed' : Array Bool) (h1 : ∀ a' w', J a' w' → wpAnyC P .any ops Q c S fuel' listed' a' w')
    (h2 : (∀ a' w', J a' w' → wpAnyC P .any ops Q c S fuel' listed' a' w') → wpAnyC P .any ops Q c S fuel listed a w) : wpAnyC P .any ops Q c S fuel listed a w := h2 h1
theorem useD {S : World → Prop} {J : Act → World → Prop} {fuel' : Nat} {listed' : Array Bool} (h : ∀ a' w', J a' w' → wpAnyC P .any ops Q c S fuel' listed' a' w') (hf : fuel = fuel') (hl : listed = listed') (hJ : J a w) : wpAnyC P .any ops Q c S fuel listed a w := by
  subst hf; subst hl; exact h a w hJ
theorem anyC_one {i : Nat} (hrd : Region.ready .any ops listed = [i]) (hf : fuel = (fuel - 1) + 1) {S : World → Prop} (h : wpOp P ops Q i (fun a' w' => ((listed.setIfInBounds i true).getD c false = false → S w') ∧ wpAnyC P .any ops Q c S (fuel - 1) (listed.setIfInBounds i true) a' w') a w) :
    wpAnyC P .any ops Q c S fuel listed a w := by
  rw [hf]
  exact ⟨fun h0 => (by rw [h0] at hrd; cases hrd), fun j hj => by rw [hrd] at hj; obtain rfl := List.mem_singleton.1 hj; exact h⟩
/-- **ONE THAT ACTS**, and comes up alone: a store, a new variable. -/
theorem act (i j : Nat) (idx : List Nat) (A : Agrees n a e) (H : Own w0 w bs ro) (hrd : Region.ready .any ops listed = [i]) (hf : fuel = (fuel - 1) + 1)
    (hr : (runL P ro.fb ops n [(i, j)] e bs w.heap.size []).map Res.fsts = some (Res.snds (after (runL P ro.fb ops n [(i, j)] e bs w.heap.size []))))
    (hk : idx.map ((after (runL P ro.fb ops n [(i, j)] e bs w.heap.size [])).2.1[·]?) = kb.map some ∨ (listed.setIfInBounds i true).getD c false = true)
    (K : ∀ a' w', Agrees n a' (after (runL P ro.fb ops n [(i, j)] e bs w.heap.size [])).1 → Own w0 w' (after (runL P ro.fb ops n [(i, j)] e bs w.heap.size [])).2.1 ro → wpAnyC P .any ops Q c (Keeps fb0 kb sl0) (fuel - 1) (listed.setIfInBounds i true) a' w') (k : Nat := 0) (hfs : ro.sl.drop k = sl0 := by kernel_rfl) (hfb0 : ro.fb = fb0 := by kernel_rfl) :
    wpAnyC P .any ops Q c (Keeps fb0 kb sl0) fuel listed a w := by
  subst hfb0
  refine anyC_one hrd hf ?_
  obtain ⟨h1, h2⟩ := of_after hr
  have h3 : stepE P ro.fb ops n i j e bs w.heap.size [] = some (after (runL P ro.fb ops n [(i, j)] e bs w.heap.size [])) := by
    rw [← h1]
    simp only [runL]
    split
    · rename_i hn; rw [hn]
    · rename_i hsm; rw [hsm]
  refine wpOp_step h3 h2 A H fun a' w' A' H' _ => ⟨fun hc => ?_, K a' w' A' H'⟩
  rcases hk with hk | hk
  · exact keeps_of H' hk hfs
  · rw [hk] at hc; cases hc
/-- **ONE THAT ACTS**, what it does shown by hand. -/
theorem actG (i : Nat) (idx : List Nat) {s : Sem Next} {v : Value} {w1 : World} {bs' : Boxes} (A : Agrees n a e) (hrun : s.run P w = .ok (.value v) w1) (H' : Own w0 w1 bs' ro) (hrd : Region.ready .any ops listed = [i]) (hf : fuel = (fuel - 1) + 1)
    (hx : operOf P ops e [i] = some s) (hd : (bindE n (dstOf ops [i]) undef e).isSome = true)
    (hk : idx.map (bs'[·]?) = kb.map some ∨ (listed.setIfInBounds i true).getD c false = true)
    (K : ∀ a', Agrees n a' (put1 n ops [i] v e) → wpAnyC P .any ops Q c (Keeps fb0 kb sl0) (fuel - 1) (listed.setIfInBounds i true) a' w1) (k : Nat := 0) (hfs : ro.sl.drop k = sl0 := by kernel_rfl) (hfb0 : ro.fb = fb0 := by kernel_rfl) :
    wpAnyC P .any ops Q c (Keeps fb0 kb sl0) fuel listed a w := by
  subst hfb0
  refine anyC_one hrd hf ?_
  unfold operOf at hx
  simp only at hx
  unfold wpOp
  split at hx
  · cases hx
  · rename_i o ho
    simp only [ho]
    split at hx
    · rename_i hw
      rw [wantedE_sound A hw]
      cases hc' : (isSel o.op || !List.all _ (known e)) with
      | true => rw [hc'] at hx; cases hx
      | false =>
        rw [hc'] at hx
        simp only [cond_false, Option.some.injEq] at hx
        simp only [Bool.or_eq_false_iff, Bool.not_eq_false'] at hc'
        simp only [if_true]
        refine .inl ?_
        unfold Oper.wp
        rw [execOp_env A hc'.2 (not_sel hc'.1), hx, hrun]
        have hA := bind_put A hd v
        simp only [dstOf, ho, Option.bind_some] at hA
        refine ⟨fun hc => ?_, K _ hA⟩
        rcases hk with hk | hk
        · exact keeps_of H' hk hfs
        · rw [hk] at hc; cases hc
    · cases hx
/-- **A CALL**. -/
theorem callD {f : Nat} {args : Array Value} {Φ : Value → World → Prop} (i : Nat) (idx : List Nat) (A : Agrees n a e) (H : Own w0 w bs ro) (hc : Rets P f args w Φ) (hrd : Region.ready .any ops listed = [i]) (hf : fuel = (fuel - 1) + 1)
    (hx : callOf P ops e [i] = some (f, args)) (hd : (bindE n (dstOf ops [i]) undef e).isSome = true)
    (hk : idx.map (bs[·]?) = kb.map some ∨ (listed.setIfInBounds i true).getD c false = true)
    (K : ∀ v a' w', Φ v w' → Agrees n a' (put1 n ops [i] v e) → Own w0 w' bs ro → wpAnyC P .any ops Q c (Keeps fb0 kb sl0) (fuel - 1) (listed.setIfInBounds i true) a' w') (k : Nat := 0) (hfs : ro.sl.drop k = sl0 := by kernel_rfl) (hfb0 : ro.fb = fb0 := by kernel_rfl) :
    wpAnyC P .any ops Q c (Keeps fb0 kb sl0) fuel listed a w := by
  subst hfb0
  refine anyC_one hrd hf (callOf_sound A hx (Calls.mono hc ?_))
  rintro e' w' ⟨v, rfl, hb, hv⟩
  refine ⟨fun hcc => ?_, K v _ w' hv (bind_put A hd v) (H.later hb)⟩
  rcases hk with hk | hk
  · exact keeps_of (H.later hb) hk hfs
  · rw [hk] at hcc; cases hcc
/-- .. with all that is told of it. -/
theorem callWD {f : Nat} {args : Array Value} {Ψ : Value → World → Prop} (i : Nat) (A : Agrees n a e) (hc : Calls P f args w fun e w' => ∃ v, e = .returned v ∧ Ψ v w') (hrd : Region.ready .any ops listed = [i]) (hf : fuel = (fuel - 1) + 1)
    (hx : callOf P ops e [i] = some (f, args)) (hd : (bindE n (dstOf ops [i]) undef e).isSome = true) {S : World → Prop}
    (hk : ∀ v w', Ψ v w' → S w')
    (K : ∀ v a' w', Ψ v w' → Agrees n a' (put1 n ops [i] v e) → wpAnyC P .any ops Q c S (fuel - 1) (listed.setIfInBounds i true) a' w') :
    wpAnyC P .any ops Q c S fuel listed a w := by
  refine anyC_one hrd hf (callOf_sound A hx (Calls.mono hc ?_))
  rintro e' w' ⟨v, rfl, hv⟩
  exact ⟨fun _ => hk v w' hv, K v _ w' hv (bind_put A hd v)⟩
theorem callGD {f : Nat} {args : Array Value} {v : Value} (i : Nat) (idx : List Nat) (A : Agrees n a e) (H : Own w0 w bs ro) (hc : Gives P f args w v) (hrd : Region.ready .any ops listed = [i]) (hf : fuel = (fuel - 1) + 1)
    (hx : callOf P ops e [i] = some (f, args)) (hd : (bindE n (dstOf ops [i]) undef e).isSome = true)
    (hk : idx.map (bs[·]?) = kb.map some ∨ (listed.setIfInBounds i true).getD c false = true)
    (K : ∀ a' w', Agrees n a' (put1 n ops [i] v e) → Own w0 w' bs ro → wpAnyC P .any ops Q c (Keeps fb0 kb sl0) (fuel - 1) (listed.setIfInBounds i true) a' w') (k : Nat := 0) (hfs : ro.sl.drop k = sl0 := by kernel_rfl) (hfb0 : ro.fb = fb0 := by kernel_rfl) :
    wpAnyC P .any ops Q c (Keeps fb0 kb sl0) fuel listed a w :=
  callD i idx A H hc hrd hf hx hd hk (fun u a' w' hu A' H' => by subst hu; exact K a' w' A' H') k hfs hfb0
theorem act_op (i j : Nat) (idx : List Nat) (A : Agrees n a e) (H : Own w0 w bs ro)
    (hr : (runL P ro.fb ops n [(i, j)] e bs w.heap.size []).map Res.fsts = some (Res.snds (after (runL P ro.fb ops n [(i, j)] e bs w.heap.size []))))
    (hk : idx.map ((after (runL P ro.fb ops n [(i, j)] e bs w.heap.size [])).2.1[·]?) = kb.map some ∨ (listed.setIfInBounds i true).getD c false = true)
    (K : ∀ a' w', Agrees n a' (after (runL P ro.fb ops n [(i, j)] e bs w.heap.size [])).1 → Own w0 w' (after (runL P ro.fb ops n [(i, j)] e bs w.heap.size [])).2.1 ro → wpAnyC P .any ops Q c (Keeps fb0 kb sl0) (fuel - 1) (listed.setIfInBounds i true) a' w') (k : Nat := 0) (hfs : ro.sl.drop k = sl0 := by kernel_rfl) (hfb0 : ro.fb = fb0 := by kernel_rfl) :
    OpC P ops Q c (Keeps fb0 kb sl0) fuel listed i a w := by
  subst hfb0
  obtain ⟨h1, h2⟩ := of_after hr
  have h3 : stepE P ro.fb ops n i j e bs w.heap.size [] = some (after (runL P ro.fb ops n [(i, j)] e bs w.heap.size [])) := by
    rw [← h1]
    simp only [runL]
    split
    · rename_i hn; rw [hn]
    · rename_i hsm; rw [hsm]
  refine wpOp_step h3 h2 A H fun a' w' A' H' _ => ⟨fun hc => ?_, K a' w' A' H'⟩
  rcases hk with hk | hk
  · exact keeps_of H' hk hfs
  · rw [hk] at hc; cases hc
theorem actG_op (i : Nat) (idx : List Nat) {s : Sem Next} {v : Value} {w1 : World} {bs' : Boxes} (A : Agrees n a e) (hrun : s.run P w = .ok (.value v) w1) (H' : Own w0 w1 bs' ro)
    (hx : operOf P ops e [i] = some s) (hd : (bindE n (dstOf ops [i]) undef e).isSome = true)
    (hk : idx.map (bs'[·]?) = kb.map some ∨ (listed.setIfInBounds i true).getD c false = true)
    (K : ∀ a', Agrees n a' (put1 n ops [i] v e) → wpAnyC P .any ops Q c (Keeps fb0 kb sl0) (fuel - 1) (listed.setIfInBounds i true) a' w1) (k : Nat := 0) (hfs : ro.sl.drop k = sl0 := by kernel_rfl) (hfb0 : ro.fb = fb0 := by kernel_rfl) :
    OpC P ops Q c (Keeps fb0 kb sl0) fuel listed i a w := by
  subst hfb0
  unfold operOf at hx
  simp only at hx
  unfold OpC wpOp
  split at hx
  · cases hx
  · rename_i o ho
    simp only [ho]
    split at hx
    · rename_i hw
      rw [wantedE_sound A hw]
      cases hc' : (isSel o.op || !List.all _ (known e)) with
      | true => rw [hc'] at hx; cases hx
      | false =>
        rw [hc'] at hx
        simp only [cond_false, Option.some.injEq] at hx
        simp only [Bool.or_eq_false_iff, Bool.not_eq_false'] at hc'
        simp only [if_true]
        refine .inl ?_
        unfold Oper.wp
        rw [execOp_env A hc'.2 (not_sel hc'.1), hx, hrun]
        have hA := bind_put A hd v
        simp only [dstOf, ho, Option.bind_some] at hA
        refine ⟨fun hc => ?_, K _ hA⟩
        rcases hk with hk | hk
        · exact keeps_of H' hk hfs
        · rw [hk] at hc; cases hc
    · cases hx
theorem callD_op {f : Nat} {args : Array Value} {Φ : Value → World → Prop} (i : Nat) (idx : List Nat) (A : Agrees n a e) (H : Own w0 w bs ro) (hc : Rets P f args w Φ)
    (hx : callOf P ops e [i] = some (f, args)) (hd : (bindE n (dstOf ops [i]) undef e).isSome = true)
    (hk : idx.map (bs[·]?) = kb.map some ∨ (listed.setIfInBounds i true).getD c false = true)
    (K : ∀ v a' w', Φ v w' → Agrees n a' (put1 n ops [i] v e) → Own w0 w' bs ro → wpAnyC P .any ops Q c (Keeps fb0 kb sl0) (fuel - 1) (listed.setIfInBounds i true) a' w') (k : Nat := 0) (hfs : ro.sl.drop k = sl0 := by kernel_rfl) (hfb0 : ro.fb = fb0 := by kernel_rfl) :
    OpC P ops Q c (Keeps fb0 kb sl0) fuel listed i a w := by
  subst hfb0
  refine (callOf_sound A hx (Calls.mono hc ?_))
  rintro e' w' ⟨v, rfl, hb, hv⟩
  refine ⟨fun hcc => ?_, K v _ w' hv (bind_put A hd v) (H.later hb)⟩
  rcases hk with hk | hk
  · exact keeps_of (H.later hb) hk hfs
  · rw [hk] at hcc; cases hcc
theorem callGD_op {f : Nat} {args : Array Value} {v : Value} (i : Nat) (idx : List Nat) (A : Agrees n a e) (H : Own w0 w bs ro) (hc : Gives P f args w v)
    (hx : callOf P ops e [i] = some (f, args)) (hd : (bindE n (dstOf ops [i]) undef e).isSome = true)
    (hk : idx.map (bs[·]?) = kb.map some ∨ (listed.setIfInBounds i true).getD c false = true)
    (K : ∀ a' w', Agrees n a' (put1 n ops [i] v e) → Own w0 w' bs ro → wpAnyC P .any ops Q c (Keeps fb0 kb sl0) (fuel - 1) (listed.setIfInBounds i true) a' w') (k : Nat := 0) (hfs : ro.sl.drop k = sl0 := by kernel_rfl) (hfb0 : ro.fb = fb0 := by kernel_rfl) :
    OpC P ops Q c (Keeps fb0 kb sl0) fuel listed i a w :=
  callD_op i idx A H hc hx hd hk (fun u a' w' hu A' H' => by subst hu; exact K a' w' A' H') k hfs hfb0
theorem callWD_op {f : Nat} {args : Array Value} {Ψ : Value → World → Prop} (i : Nat) (A : Agrees n a e) (hc : Calls P f args w fun e w' => ∃ v, e = .returned v ∧ Ψ v w')
    (hx : callOf P ops e [i] = some (f, args)) (hd : (bindE n (dstOf ops [i]) undef e).isSome = true) {S : World → Prop}
    (hk : ∀ v w', Ψ v w' → S w')
    (K : ∀ v a' w', Ψ v w' → Agrees n a' (put1 n ops [i] v e) → wpAnyC P .any ops Q c S (fuel - 1) (listed.setIfInBounds i true) a' w') :
    OpC P ops Q c S fuel listed i a w := by
  refine (callOf_sound A hx (Calls.mono hc ?_))
  rintro e' w' ⟨v, rfl, hv⟩
  exact ⟨fun _ => hk v w' hv, K v _ w' hv (bind_put A hd v)⟩
theorem doneD (hr : Region.ready .any ops listed = []) (h : Q .normal a w) {S : World → Prop} : ∀ fuel, wpAnyC P .any ops Q c S fuel listed a w
  | 0 => ⟨hr, h⟩
  | _ + 1 => ⟨fun _ => h, by rw [hr]; simp⟩
theorem bsplit {G : Prop} (b : Bool) (ht : b = true → G) (hf : b = false → G) : G := by cases b <;> simp_all
theorem round {c : Code} {k : Nat} (h : c.wp P (Exit.then (Code.rounds P c Q k) Q) a w) : Code.rounds P c Q (k + 1) a w := h
theorem then_x {N : Act → World → Prop} {i : Nat} (h : Q (.exit i) a w) : Exit.then N Q (.exit i) a w := h
theorem then_r {N : Act → World → Prop} (h : Q .ret a w) : Exit.then N Q .ret a w := h
theorem blk_r {id : Nat} (h : Q .ret a w) : Exit.inBlock id Q .ret a w := h
theorem blk_x {id i : Nat} (hne : i ≠ id) (h : Q (.exit i) a w) : Exit.inBlock id Q (.exit i) a w := by simp only [Exit.inBlock, if_neg hne]; exact h
end
/-! ### '==' of structs -/
section
variable {P : Program} {d : Nat} {xs ys : Array Value} {f : Field} {fs : List Field} {r s : Bool} {w : World}
def eqOne (d : Nat) (xs ys : Array Value) (f : Field) : Sem Bool := do
  let a ← part f.type xs f.offset
  let b ← part f.type ys f.offset
  Op.equalIn d f.type a b
theorem eqf (hn : (f.name == "_") = false) (he : (eqOne d xs ys f).run P w = .ok r w) (hpa : ∃ a, (part f.type xs f.offset).run P w = .ok a w) (hpb : ∃ b, (part f.type ys f.offset).run P w = .ok b w) (hr : (Op.eqFields d xs ys fs).run P w = .ok s w) : (Op.eqFields d xs ys (f :: fs)).run P w = .ok (r && s) w := by
  obtain ⟨a, ha⟩ := hpa
  obtain ⟨b, hb⟩ := hpb
  have hn' : f.name ≠ "_" := by simpa using hn
  have he' : (Op.equalIn d f.type a b).run P w = .ok r w := by
    simpa only [eqOne, Sem.run_bind, ha, hb, Result.andThen_ok] using he
  rw [Op.eqFields]
  simp only [if_pos hn', Sem.run_bind, ha, hb, he', Result.andThen_ok]
  cases r
  · simp
  · simpa using hr
theorem eqf_nil : (Op.eqFields d xs ys []).run P w = .ok true w := by simp [Op.eqFields]
theorem eqA {t : TypeId} {fs : Array Field} (hu : P.underlying t = some (.struct fs)) (hp : P.stoodInHeld t = false) (h : (Op.eqFields d xs ys fs.toList).run P w = .ok r w) : (Op.equalIn (d + 1) t (.agg xs) (.agg ys)).run P w = .ok r w := by
  have hf : P.fieldsOf t = fs := by simp [Program.fieldsOf, hu]
  rw [run_equalIn_struct (P := P) w d t xs ys (by rw [hf]; exact hu) hp, hf]
  exact h
theorem eqOneA {u v : Array Value} (ha : (part f.type xs f.offset).run P w = .ok (.agg u) w) (hb : (part f.type ys f.offset).run P w = .ok (.agg v) w) (h : (Op.equalIn d f.type (.agg u) (.agg v)).run P w = .ok r w) : (eqOne d xs ys f).run P w = .ok r w := by
  simp only [eqOne, Sem.run_bind, ha, hb, Result.andThen_ok, h]
def semEq (T : TypeId) (X Y : Operand) (x y : Value) : Sem Next := do
  let v ← (do eqGuard .eql T X Y x y; Go.binOp .eql T x y)
  pure (.value v)
theorem run_semEq (w : World) (T : TypeId) (X Y : Operand) (xs ys : Array Value) (r : Bool) (hg : (eqGuard .eql T X Y (.agg xs) (.agg ys)).run P w = .ok () w) (h : (Op.equalIn (9999 + 1) T (.agg xs) (.agg ys)).run P w = .ok r w) :
    (semEq T X Y (.agg xs) (.agg ys)).run P w = .ok (.value (.bool r)) w := by
  have h2 : (Go.binOp .eql T (.agg xs) (.agg ys)).run P w = .ok (.bool r) w := by
    show (do let b ← Op.equal T (.agg xs) (.agg ys); pure (Value.bool b) : Sem Value).run P w = _
    have h' : (Op.equal T (.agg xs) (.agg ys)).run P w = .ok r w := h
    simp only [Sem.run_bind, h', Result.andThen_ok, Sem.run_pure]
  simp only [semEq, Sem.run_bind, hg, Result.andThen_ok, h2, Sem.run_pure]
end
def boxB (bs : Boxes) (j : Nat) : Nat := ((bs[j]?).getD (0, .cells #[] 0 (0, 0))).1
def boxO (bs : Boxes) (j : Nat) : Obj := ((bs[j]?).getD (0, .cells #[] 0 (0, 0))).2
def bb {w0 w : World} {bs : Boxes} {ro : Rd} (_ : Own w0 w bs ro) (j : Nat) : Nat := boxB bs j
def roOf {w0 w : World} {bs : Boxes} {ro : Rd} (_ : Own w0 w bs ro) : Rd := ro
theorem Own.re {w0 w : World} {bs : Boxes} {ro : Rd} (h : Own w0 w bs ro) (j b : Nat) (o o' : Obj) (hj : bs[j]? = some (b, o)) (ho : o = o') : Own w0 w (setNth bs j (b, o')) ro := by
  subst ho
  have : setNth bs j (b, o) = bs := by
    clear h
    induction bs generalizing j with
    | nil => simp at hj
    | cons p l ih => cases j with
      | zero => simp at hj; subst hj; rfl
      | succ j => simp at hj; simp [setNth, ih j hj]
  rw [this]; exact h
theorem ofOld {w0 w : World} {bs : Boxes} {ro : Rd} (H : Own w0 w bs ro) {b : Nat} {o : Obj} (h : w0.heap[b]? = some o) : w.heap[b]? = some o := by rw [H.below.block _ (getElem?_lt h)]; exact h
/-- A box, for one to whom its address is handed. -/
theorem boxHas {w0 w : World} {bs : Boxes} {ro : Rd} (H : Own w0 w bs ro) (j : Nat) (cs : Array Value) (T : TypeId) (hs : (bs[j]?).isSome = true) (ho : boxO bs j = .cells cs T (0, 0)) : w.heap[boxB bs j]? = some (.cells cs T (0, 0)) := by
  rw [← ho]
  obtain ⟨p, hp⟩ := Option.isSome_iff_exists.1 hs
  simp only [boxB, boxO, hp, Option.getD_some]
  exact H.has p (List.mem_of_getElem? hp)
/-- A division whose divisor is no numeral. -/
def semBin (b : BinOp) (T : TypeId) (x y : Value) : Sem Next := do
  let v ← Go.binOp b T x y
  pure (.value v)
theorem run_rem (P : Program) (T : TypeId) (k : IntKind) (x y : Int) (w : World) (hy : y ≠ 0) : (semBin .rem T (.int k x) (.int k y)).run P w = .ok (.value (.int k (Int.tmod x y))) w := by
  simp [semBin, Go.binOp, Op.intDiv, hy]
theorem run_quo (P : Program) (T : TypeId) (k : IntKind) (x y : Int) (w : World) (hy : y ≠ 0) : (semBin .quo T (.int k x) (.int k y)).run P w = .ok (.value (.int k (k.wrap (Int.tdiv x y)))) w := by
  simp [semBin, Go.binOp, Op.intDiv, hy]
theorem i_in (x : Int) (h1 : -9223372036854775808 ≤ x) (h2 : x ≤ 9223372036854775807) : Value.int .i64 (IntKind.i64.wrap x) = .int .i64 x := by
  rw [show IntKind.i64.wrap x = x by rw [IntKind.wrap_i64]; omega]
theorem u_in (x : Nat) (h : x < 18446744073709551616) : Value.int .u64 (IntKind.u64.wrap (x : Int)) = .int .u64 (x : Int) := by
  rw [show IntKind.u64.wrap (x : Int) = x by rw [IntKind.wrap_u64]; omega]
theorem u_toNat (x : Int) (h0 : 0 ≤ x) (h : x < 18446744073709551616) : Value.int .u64 (IntKind.u64.wrap x) = .int .u64 ((x.toNat : Nat) : Int) := by
  rw [show IntKind.u64.wrap x = ((x.toNat : Nat) : Int) by rw [IntKind.wrap_u64]; omega]
theorem u_add (x y : Nat) (h : x + y < 18446744073709551616) : Value.int .u64 (IntKind.u64.wrap ((x : Int) + (y : Int))) = .int .u64 ((x + y : Nat) : Int) := by
  rw [show IntKind.u64.wrap ((x : Int) + (y : Int)) = ((x + y : Nat) : Int) by rw [IntKind.wrap_u64]; omega]
theorem u_addm (x y : Nat) : Value.int .u64 (IntKind.u64.wrap ((x : Int) + (y : Int))) = .int .u64 (((x + y) % 18446744073709551616 : Nat) : Int) := by
  rw [show IntKind.u64.wrap ((x : Int) + (y : Int)) = (((x + y) % 18446744073709551616 : Nat) : Int) by rw [IntKind.wrap_u64]; omega]
theorem u_sub (x y : Nat) (h : y ≤ x) (hx : x < 18446744073709551616) : Value.int .u64 (IntKind.u64.wrap ((x : Int) - (y : Int))) = .int .u64 ((x - y : Nat) : Int) := by
  rw [show IntKind.u64.wrap ((x : Int) - (y : Int)) = ((x - y : Nat) : Int) by rw [IntKind.wrap_u64]; omega]
theorem u_subm (x y : Nat) (h : y ≤ 18446744073709551616) : Value.int .u64 (IntKind.u64.wrap ((x : Int) - (y : Int))) = .int .u64 (((x + 18446744073709551616 - y) % 18446744073709551616 : Nat) : Int) := by
  rw [show IntKind.u64.wrap ((x : Int) - (y : Int)) = (((x + 18446744073709551616 - y) % 18446744073709551616 : Nat) : Int) by rw [IntKind.wrap_u64]; omega]
theorem u_mul (x y : Nat) (h : x * y < 18446744073709551616) : Value.int .u64 (IntKind.u64.wrap ((x : Int) * (y : Int))) = .int .u64 ((x * y : Nat) : Int) := by
  rw [show ((x : Int) * (y : Int)) = ((x * y : Nat) : Int) by simp, u_in _ h]
theorem u_mulm (x y : Nat) : Value.int .u64 (IntKind.u64.wrap ((x : Int) * (y : Int))) = .int .u64 ((x * y % 18446744073709551616 : Nat) : Int) := by
  rw [show ((x : Int) * (y : Int)) = ((x * y : Nat) : Int) by simp, show IntKind.u64.wrap ((x * y : Nat) : Int) = ((x * y % 18446744073709551616 : Nat) : Int) by rw [IntKind.wrap_u64]; omega]
theorem u_quo (x y : Nat) (h : x < 18446744073709551616) : Value.int .u64 (IntKind.u64.wrap (Int.tdiv (x : Int) (y : Int))) = .int .u64 ((x / y : Nat) : Int) := by
  rw [show Int.tdiv (x : Int) (y : Int) = ((x / y : Nat) : Int) by rw [Int.tdiv_eq_ediv_of_nonneg (Int.natCast_nonneg x)]; simp, u_in _ (Nat.lt_of_le_of_lt (Nat.div_le_self _ _) h)]
theorem u_rem (x y : Nat) : Value.int .u64 (Int.tmod (x : Int) (y : Int)) = .int .u64 ((x % y : Nat) : Int) := by
  rw [show Int.tmod (x : Int) (y : Int) = ((x % y : Nat) : Int) by rw [Int.tmod_eq_emod_of_nonneg (Int.natCast_nonneg x)]; simp]
theorem i_addN (x y : Nat) (h : x + y < 9223372036854775808) : Value.int .i64 (IntKind.i64.wrap ((x : Int) + (y : Int))) = .int .i64 ((x + y : Nat) : Int) := by
  rw [i_in _ (by omega) (by omega)]; simp
theorem i_subN (x y : Nat) (h : y ≤ x) (h2 : x < 9223372036854775808) : Value.int .i64 (IntKind.i64.wrap ((x : Int) - (y : Int))) = .int .i64 ((x - y : Nat) : Int) := by
  rw [i_in _ (by omega) (by omega)]; congr 1; omega
theorem u64_same (x : Int) (h0 : 0 ≤ x) (h : x < 18446744073709551616) : Value.int .u64 (IntKind.u64.wrap x) = .int .u64 x := by
  rw [show IntKind.u64.wrap x = x by rw [IntKind.wrap_u64]; omega]
theorem i64_same (x : Int) (h0 : -9223372036854775808 ≤ x) (h : x ≤ 9223372036854775807) : Value.int .i64 (IntKind.i64.wrap x) = .int .i64 x := i_in x h0 h
end Go.Proofs.YtfkmcdkncmapmaaGreatDoor.SX
