/- A walk by the kernel's own reckoning: operations that touch temporaries and boxes (blocks that are known whole) are run by a function of ours, 'runL'; the walk keeps what it yields unreckoned, and the kernel reckons it when two things are held against each other. -/
import Derived.Calls
import Derived.Orders
import Derived.Below
import Derived.KernelRfl
import Derived.Laws.Sem
set_option linter.unusedVariables false
set_option linter.unusedSimpArgs false
namespace Go.Proofs.YtfkmcdkncmapmaaGreatDoor.SX
open Go Go.RowKit

/-! ### Temporaries that are known -/
abbrev Env := List (Nat × Value)
def Env.get : Env → Nat → Option Value
  | [], _ => none
  | p :: e, t => bif Nat.beq p.1 t then some p.2 else Env.get e t
def rho (e : Env) : Operand → Value
  | .tmp t => (Env.get e t).getD undef
  | .const v => v
  | .global g => .pointer (some ⟨g, 0, none⟩)
  | .func f => .func (.func f) #[] #[]
def known (e : Env) : Operand → Bool
  | .tmp t => (Env.get e t).isSome
  | _ => true
structure Agrees (n : Nat) (a : Act) (e : Env) : Prop where
  defers : a.defers = []
  size : a.tmps.size = n
  get : ∀ t v, Env.get e t = some v → a.tmps[t]? = some v
theorem Env.get_cons {d t : Nat} {v : Value} {e : Env} : Env.get ((d, v) :: e) t = if d = t then some v else Env.get e t := by
  simp only [Env.get, Bool.cond_eq_ite, Nat.beq_eq]
theorem Agrees.put {n : Nat} {a : Act} {e : Env} (h : Agrees n a e) {d : Nat} (hd : d < n) (v : Value) : Agrees n (a.put (some d) v) ((d, v) :: e) := by
  refine ⟨h.defers, by simp [Act.put, h.size], fun t u hu => ?_⟩
  rw [Env.get_cons] at hu
  by_cases hdt : d = t
  · subst hdt
    simp only [if_true, Option.some.injEq] at hu
    subst hu
    simp [Act.put, Array.getElem?_setIfInBounds, h.size, hd]
  · rw [if_neg hdt] at hu
    simp only [Act.put, Array.getElem?_setIfInBounds_ne hdt]
    exact h.get t u hu
theorem Agrees.none {n : Nat} {a : Act} {e : Env} (h : Agrees n a e) (v : Value) : Agrees n (a.put none v) e := h
/-- What is known may be told anew, and less of it. -/
theorem Agrees.sub {n : Nat} {a : Act} {e : Env} (h : Agrees n a e) (e' : Env) (hs : e'.map (fun p => Env.get e p.1) = e'.map (fun p => some p.2)) : Agrees n a e' := by
  refine ⟨h.defers, h.size, fun t v hv => h.get t v ?_⟩
  have key : ∀ l : Env, l.map (fun p => Env.get e p.1) = l.map (fun p => some p.2) → Env.get l t = some v → Env.get e t = some v := by
    intro l
    induction l with
    | nil => intro _ h; cases h
    | cons p l ih =>
      obtain ⟨d, u⟩ := p
      intro hl hg
      simp only [List.map_cons, List.cons.injEq] at hl
      rw [Env.get_cons] at hg
      by_cases hdt : d = t
      · subst hdt; rw [if_pos rfl] at hg; rw [hl.1]; exact hg
      · rw [if_neg hdt] at hg; exact ih hl.2 hg
  exact key e' hs hv
theorem Agrees.re {n : Nat} {a : Act} {e : Env} (h : Agrees n a e) (d : Nat) (v v' : Value) (hg : Env.get e d = some v) (hv : v = v') : Agrees n a ((d, v') :: e) := by
  subst hv
  refine ⟨h.defers, h.size, fun t u hu => h.get t u ?_⟩
  rw [Env.get_cons] at hu
  by_cases hdt : d = t
  · subst hdt; rw [if_pos rfl] at hu; rw [hg]; exact hu
  · rw [if_neg hdt] at hu; exact hu
theorem Agrees.eval {n : Nat} {a : Act} {e : Env} (h : Agrees n a e) {x : Operand} (hk : known e x = true) : a.eval x = rho e x := by
  cases x with
  | tmp t =>
    obtain ⟨v, hv⟩ := Option.isSome_iff_exists.1 hk
    simp [Act.eval, rho, hv, h.get t v hv]
  | _ => rfl
theorem execOp_env {n : Nat} {a : Act} {e : Env} (h : Agrees n a e) {o : Oper} (hk : o.op.operands.toList.all (known e) = true) (hs : ∀ cs b, o.op ≠ .select cs b) : execOp a.eval o = execOp (rho e) o :=
  execOp_congr o hs fun x hx => h.eval (List.all_eq_true.1 hk x (Array.mem_toList_iff.2 hx))

/-! ### Boxes: blocks that are known whole -/
abbrev Boxes := List (Nat × Obj)
abbrev Seen := List (Nat × Nat)
def setNth {α : Type} : List α → Nat → α → List α
  | [], _, _ => []
  | _ :: l, 0, x => x :: l
  | y :: l, n + 1, x => y :: setNth l n x
/-- A slice's parts. -/
structure Sl where
  a : Option Addr
  n : Nat
  c : Nat
abbrev Sl.v (s : Sl) : Value := .slice s.a s.n s.c
abbrev Sl.nil : Sl := ⟨none, 0, 0⟩
def Sl.blk (s : Sl) : Nat := (s.a.map Addr.block).getD 0
def Sl.off (s : Sl) : Nat := (s.a.map Addr.off).getD 0
/-- A slice that reads as a row of cells ('sz' an element); its block is none of those that 'no' names. -/
def SlAt (w : World) (no : List Nat) (s : Sl) (sz : Nat) (ys : List Value) : Prop :=
  (s = ⟨none, 0, 0⟩ ∧ ys = []) ∨ ∃ b off cs E fr, s.a = some ⟨b, off, none⟩ ∧ w.heap[b]? = some (.cells cs E fr) ∧ b ∉ no ∧ ys.length = s.n * sz ∧ s.n ≤ s.c ∧ ∀ i (h : i < ys.length), cs[off + i]? = some ys[i]
/-- What is known of blocks that are only read. -/
structure Fact where
  P : World → List Nat → Prop
  st : ∀ w w' no no', (∀ b o, b ∉ no → w.heap[b]? = some o → b ∉ no' ∧ w'.heap[b]? = some o) → P w no → P w' no'
/-- What is only read: facts, and blocks that are known whole; the blocks that are another's. -/
structure Rd where
  sl : List Fact
  fb : Boxes
  no : List Nat
structure Own (w0 w : World) (bs : Boxes) (ro : Rd) : Prop where
  below : Below w0.heap.size w0 w
  has : ∀ p ∈ bs, w.heap[p.1]? = some p.2
  fresh : ∀ p ∈ bs, w0.heap.size ≤ p.1
  nodup : (bs.map (·.1)).Nodup
  hro : ∀ r ∈ ro.sl, r.P w (bs.map (·.1) ++ ro.no)
  hfb : ∀ p ∈ ro.fb, w.heap[p.1]? = some p.2 ∧ p.1 ∉ bs.map (·.1)
  hno : ∀ b ∈ ro.no, b < w.heap.size ∧ b ∉ bs.map (·.1)
theorem SlAt.keep {w w' : World} {no no' : List Nat} {v : Sl} {sz : Nat} {ys : List Value} (h : SlAt w no v sz ys) (hk : ∀ b o, b ∉ no → w.heap[b]? = some o → b ∉ no' ∧ w'.heap[b]? = some o) : SlAt w' no' v sz ys := by
  rcases h with h | ⟨b, off, cs, E, fr, hv, hb, hn, r⟩
  · exact .inl h
  · obtain ⟨h1, h2⟩ := hk b _ hn hb
    exact .inr ⟨b, off, cs, E, fr, hv, h2, h1, r⟩
def slF (v : Sl) (sz : Nat) (ys : List Value) : Fact := ⟨fun w no => SlAt w no v sz ys, fun _ _ _ _ hk h => SlAt.keep h hk⟩
theorem getElem?_lt {α : Type} {a : Array α} {k : Nat} {x : α} (h : a[k]? = some x) : k < a.size := (Array.getElem?_eq_some_iff.1 h).1
theorem setNth_map {α β : Type} (f : α → β) : ∀ (l : List α) (j : Nat) (x y : α), l[j]? = some y → f x = f y → (setNth l j x).map f = l.map f
  | [], j, x, y, h, _ => by simp at h
  | z :: l, 0, x, y, h, hf => by simp at h; subst h; simp [setNth, hf]
  | z :: l, j + 1, x, y, h, hf => by simp at h; simp [setNth, setNth_map f l j x y h hf]
theorem mem_setNth {α : Type} : ∀ (l : List α) (j : Nat) (x p : α), p ∈ setNth l j x → p = x ∨ ∃ i, i ≠ j ∧ l[i]? = some p
  | [], _, _, _, h => by cases h
  | z :: l, 0, x, p, h => by
    rcases List.mem_cons.1 h with h | h
    · exact .inl h
    · obtain ⟨i, hi⟩ := List.mem_iff_getElem?.1 h
      exact .inr ⟨i + 1, by omega, by simpa using hi⟩
  | z :: l, j + 1, x, p, h => by
    rcases List.mem_cons.1 h with h | h
    · exact .inr ⟨0, by omega, by simp [h]⟩
    · rcases mem_setNth l j x p h with h | ⟨i, hne, hi⟩
      · exact .inl h
      · exact .inr ⟨i + 1, by omega, by simpa using hi⟩
theorem nodup_ne {α : Type} {l : List α} {i j : Nat} {x y : α} (h : l.Nodup) (hi : l[i]? = some x) (hj : l[j]? = some y) (hne : i ≠ j) : x ≠ y := by
  intro hxy
  subst hxy
  obtain ⟨hi', hx⟩ := List.getElem?_eq_some_iff.1 hi
  obtain ⟨hj', hy⟩ := List.getElem?_eq_some_iff.1 hj
  have hp := List.pairwise_iff_getElem.1 h
  rcases Nat.lt_or_gt_of_ne hne with hlt | hlt
  · exact hp i j hi' hj' hlt (hx.trans hy.symm)
  · exact hp j i hj' hi' hlt (hy.trans hx.symm)
theorem heap_setCell_same {w : World} {a : Addr} {v : Value} {cs : Array Value} {E : TypeId} {fr : Nat × Nat} (h : w.heap[a.block]? = some (.cells cs E fr)) (hs : a.spot = none) :
    (w.setCell a v).heap[a.block]? = some (.cells (cs.setIfInBounds a.off v) E fr) := by
  simp [World.setCell, Array.getElem?_modify, h, hs]
theorem Own.set {w0 w : World} {bs : Boxes} {ro : Rd} (h : Own w0 w bs ro) {j B : Nat} {cs : Array Value} {E : TypeId} {fr : Nat × Nat} (hj : bs[j]? = some (B, .cells cs E fr)) {a : Addr} (ha : a.block = B) (hs : a.spot = none) (v : Value) :
    Own w0 (w.setCell a v) (setNth bs j (B, .cells (cs.setIfInBounds a.off v) E fr)) ro := by
  subst ha
  have hm := List.mem_of_getElem? hj
  have hmap := setNth_map (·.1) bs j (a.block, Obj.cells (cs.setIfInBounds a.off v) E fr) _ hj rfl
  refine ⟨h.below.setCell (h.fresh _ hm) v, fun p hp => ?_, fun p hp => ?_, ?_, fun r hr => ?_, fun p hp => ?_, fun b hb => ⟨by simp only [World.setCell, Array.size_modify]; exact (h.hno b hb).1, by rw [hmap]; exact (h.hno b hb).2⟩⟩
  · rcases mem_setNth _ _ _ _ hp with rfl | ⟨i, hne, hi⟩
    · exact heap_setCell_same (h.has _ hm) hs
    · have hb : p.1 ≠ a.block := nodup_ne (l := bs.map (·.1)) h.nodup (by simp [hi]) (by simp [hj]) hne
      rw [Below.heap_setCell _ _ _ _ hb]
      exact h.has _ (List.mem_of_getElem? hi)
  · rcases mem_setNth _ _ _ _ hp with rfl | ⟨i, hne, hi⟩
    · exact (show w0.heap.size ≤ a.block from h.fresh _ hm)
    · exact h.fresh _ (List.mem_of_getElem? hi)
  · rw [hmap]; exact h.nodup
  · rw [hmap]
    refine r.st _ _ _ _ (fun b o hn hb => ⟨hn, ?_⟩) (h.hro r hr)
    rw [Below.heap_setCell _ _ _ _ (fun e => hn (List.mem_append_left _ (List.mem_map.2 ⟨_, hm, e.symm⟩)))]; exact hb
  · rw [hmap]
    obtain ⟨hb, hn⟩ := h.hfb p hp
    exact ⟨by rw [Below.heap_setCell _ _ _ _ (fun e => hn (List.mem_map.2 ⟨_, hm, e.symm⟩))]; exact hb, hn⟩
theorem alloc_new (w : World) (o : Obj) : (w.alloc o).heap[w.heap.size]? = some o := by
  show (w.heap.push o)[w.heap.size]? = _
  simp
theorem Own.alloc {w0 w : World} {bs : Boxes} {ro : Rd} (h : Own w0 w bs ro) (o : Obj) : Own w0 (w.alloc o) (bs ++ [(w.heap.size, o)]) ro := by
  have old : ∀ k x, w.heap[k]? = some x → (w.alloc o).heap[k]? = some x := fun k x hk => by rw [Below.heap_alloc _ _ _ (getElem?_lt hk)]; exact hk
  have newb : ∀ b x, b ∉ bs.map (·.1) → w.heap[b]? = some x → b ∉ (bs ++ [(w.heap.size, o)]).map (·.1) := fun b x hn hb hm => by
    rw [List.map_append] at hm
    rcases List.mem_append.1 hm with hm | hm
    · exact hn hm
    · have := getElem?_lt hb
      simp at hm
      omega
  refine ⟨h.below.alloc h.below.size o, fun p hp => ?_, fun p hp => ?_, ?_, fun r hr => ?_, fun p hp => ⟨old _ _ (h.hfb p hp).1, newb _ _ (h.hfb p hp).2 (h.hfb p hp).1⟩, fun b hb => ⟨Nat.lt_of_lt_of_le (h.hno b hb).1 (by show _ ≤ (w.heap.push o).size; simp), fun hm => ?_⟩⟩
  · rcases List.mem_append.1 hp with hp | hp
    · exact old _ _ (h.has p hp)
    · obtain rfl := List.mem_singleton.1 hp; exact alloc_new w o
  · rcases List.mem_append.1 hp with hp | hp
    · exact h.fresh p hp
    · obtain rfl := List.mem_singleton.1 hp; exact h.below.size
  · rw [List.map_append, List.nodup_append]
    refine ⟨h.nodup, by simp, fun x hx y hy => ?_⟩
    obtain ⟨p, hp, rfl⟩ := List.mem_map.1 hx
    simp at hy; subst hy
    have := getElem?_lt (h.has p hp)
    omega
  · exact r.st _ _ _ _ (fun b x hn hb => ⟨fun hm => (List.mem_append.1 hm).elim (newb _ _ (fun h => hn (List.mem_append_left _ h)) hb) (fun h => hn (List.mem_append_right _ h)), old _ _ hb⟩) (h.hro r hr)
  · rw [List.map_append] at hm
    rcases List.mem_append.1 hm with hm | hm
    · exact (h.hno b hb).2 hm
    · have := (h.hno b hb).1
      simp at hm
      omega
theorem Own.later {w0 w w' : World} {bs : Boxes} {ro : Rd} (h : Own w0 w bs ro) (hb : Below w.heap.size w w') : Own w0 w' bs ro :=
  ⟨h.below.trans (hb.mono h.below.size), fun p hp => by rw [hb.block _ (getElem?_lt (h.has p hp))]; exact h.has p hp, h.fresh, h.nodup,
    fun r hr => r.st _ _ _ _ (fun b o hn ho => ⟨hn, by rw [hb.block _ (getElem?_lt ho)]; exact ho⟩) (h.hro r hr), fun p hp => ⟨by rw [hb.block _ (getElem?_lt (h.hfb p hp).1)]; exact (h.hfb p hp).1, (h.hfb p hp).2⟩, fun b hb' => ⟨Nat.lt_of_lt_of_le (h.hno b hb').1 hb.size, (h.hno b hb').2⟩⟩
theorem Own.drew {w0 w : World} {bs : Boxes} {ro : Rd} (h : Own w0 w bs ro) : Own w0 w.drew bs ro := ⟨h.below.drew, h.has, h.fresh, h.nodup, fun r hr => r.st w _ _ _ (fun _ _ hn hb => ⟨hn, hb⟩) (h.hro r hr), h.hfb, h.hno⟩
/-- Boxes picked out, in another order, told anew. -/
theorem Own.pick {w0 w : World} {bs : Boxes} {ro : Rd} (h : Own w0 w bs ro) (idx : List Nat) (bs' : Boxes) (hi : idx.Nodup) (hb : idx.map (bs[·]?) = bs'.map some) : Own w0 w bs' ro := by
  have hm : ∀ p ∈ bs', p ∈ bs := fun p hp => by
    have : some p ∈ idx.map (bs[·]?) := by rw [hb]; exact List.mem_map_of_mem hp
    obtain ⟨i, _, hi⟩ := List.mem_map.1 this
    exact List.mem_of_getElem? hi
  have key : ∀ (idx : List Nat) (bs' : Boxes), idx.Nodup → idx.map (bs[·]?) = bs'.map some → (bs'.map (·.1)).Nodup := by
    intro idx
    induction idx with
    | nil => intro bs' _ hb; cases bs' with
      | nil => simp
      | cons p l => simp at hb
    | cons i idx ih =>
      intro bs' hi hb
      cases bs' with
      | nil => simp at hb
      | cons p l =>
        simp only [List.map_cons, List.cons.injEq] at hb
        rw [List.nodup_cons] at hi
        simp only [List.map_cons, List.nodup_cons]
        refine ⟨fun hmem => ?_, ih l hi.2 hb.2⟩
        obtain ⟨q, hq, hqp⟩ := List.mem_map.1 hmem
        have : some q ∈ idx.map (bs[·]?) := by rw [hb.2]; exact List.mem_map_of_mem hq
        obtain ⟨k, hk, hkq⟩ := List.mem_map.1 this
        exact nodup_ne (l := bs.map (·.1)) h.nodup (i := k) (j := i) (by simp [hkq]) (by simp [hb.1]) (fun e => hi.1 (e ▸ hk)) hqp
  have hsub : ∀ b, b ∉ bs.map (·.1) → b ∉ bs'.map (·.1) := fun b hn hmem => by
    obtain ⟨p, hp, hpb⟩ := List.mem_map.1 hmem
    exact hn (List.mem_map.2 ⟨p, hm p hp, hpb⟩)
  exact ⟨h.below, fun p hp => h.has p (hm p hp), fun p hp => h.fresh p (hm p hp), key idx bs' hi hb, fun r hr => r.st _ _ _ _ (fun b o hn ho => ⟨fun hm => (List.mem_append.1 hm).elim (hsub b (fun h => hn (List.mem_append_left _ h))) (fun h => hn (List.mem_append_right _ h)), ho⟩) (h.hro r hr), fun p hp => ⟨(h.hfb p hp).1, hsub _ (h.hfb p hp).2⟩, fun b hb => ⟨(h.hno b hb).1, hsub b (h.hno b hb).2⟩⟩
theorem Own.ro_sub {w0 w : World} {bs : Boxes} {ro : Rd} (h : Own w0 w bs ro) (sl' : List Fact) (fb' : Boxes) (hs : ∀ p ∈ sl', p ∈ ro.sl) (hf : ∀ p ∈ fb', p ∈ ro.fb) : Own w0 w bs ⟨sl', fb', ro.no⟩ :=
  ⟨h.below, h.has, h.fresh, h.nodup, fun p hp => h.hro p (hs p hp), fun p hp => h.hfb p (hf p hp), h.hno⟩
theorem SlAt.any {w : World} {no : List Nat} {v : Sl} {sz : Nat} {ys : List Value} (h : SlAt w no v sz ys) : SlAt w [] v sz ys := h.keep fun _ _ _ hb => ⟨List.not_mem_nil, hb⟩
/-- The blocks that a callee must not touch. -/
def nos {w0 w : World} {bs : Boxes} {ro : Rd} (_ : Own w0 w bs ro) : List Nat := bs.map (·.1) ++ ro.no
theorem Own.nos_lt {w0 w : World} {bs : Boxes} {ro : Rd} (h : Own w0 w bs ro) : ∀ b ∈ nos h, b < w.heap.size := fun b hb => by
  rcases List.mem_append.1 hb with hb | hb
  · obtain ⟨p, hp, rfl⟩ := List.mem_map.1 hb
    exact getElem?_lt (h.has p hp)
  · exact (h.hno b hb).1
/-- What is known. -/
theorem Own.fact {w0 w : World} {bs : Boxes} {ro : Rd} (h : Own w0 w bs ro) (i : Nat) (P : World → List Nat → Prop) (hi : (ro.sl[i]?).map Fact.P = some P) : P w (nos h) := by
  cases hx : ro.sl[i]? with
  | none => rw [hx] at hi; cases hi
  | some r =>
    rw [hx] at hi
    simp only [Option.map_some, Option.some.injEq] at hi
    subst hi
    exact h.hro r (List.mem_of_getElem? hx)
theorem Own.fact' {w0 w : World} {bs : Boxes} {ro : Rd} (h : Own w0 w bs ro) (i : Nat) (F : Fact) (hi : (ro.sl[i]?).map Fact.P = some F.P) : F.P w (nos h) := h.fact i F.P hi
/-- What is handed back. -/
theorem Own.out {w0 w : World} {bs : Boxes} {ro : Rd} (h : Own w0 w bs ro) (i : Nat) (F : Fact) (hi : (ro.sl[i]?).map Fact.P = some F.P) : F.P w ro.no :=
  F.st _ _ _ _ (fun b o hn hb => ⟨fun hm => hn (List.mem_append_right _ hm), hb⟩) (h.fact i F.P hi)
/-- What was known at the start is known for good. -/
theorem Own.known {w0 w : World} {bs : Boxes} {ro : Rd} (h : Own w0 w bs ro) (F : Fact) (hF : F.P w0 ro.no) : Own w0 w bs ⟨F :: ro.sl, ro.fb, ro.no⟩ := by
  refine ⟨h.below, h.has, h.fresh, h.nodup, fun r hr => ?_, h.hfb, h.hno⟩
  rcases List.mem_cons.1 hr with rfl | hr
  · refine r.st _ _ _ _ (fun b o hn hb => ⟨fun hm => ?_, by rw [h.below.block _ (getElem?_lt hb)]; exact hb⟩) hF
    rcases List.mem_append.1 hm with hm | hm
    · obtain ⟨p, hp, rfl⟩ := List.mem_map.1 hm
      have := h.fresh p hp
      have := getElem?_lt hb
      omega
    · exact hn hm
  · exact h.hro r hr
/-- What a call has made known. -/
theorem Own.learn {w0 w : World} {bs : Boxes} {ro : Rd} (h : Own w0 w bs ro) (F : Fact) (hF : F.P w (nos h)) : Own w0 w bs ⟨F :: ro.sl, ro.fb, ro.no⟩ := by
  refine ⟨h.below, h.has, h.fresh, h.nodup, fun r hr => ?_, h.hfb, h.hno⟩
  rcases List.mem_cons.1 hr with rfl | hr
  · exact hF
  · exact h.hro r hr
theorem Own.learnEq {w0 w : World} {bs : Boxes} {ro : Rd} (h : Own w0 w bs ro) (i : Nat) (F0 F : Fact) (hi : (ro.sl[i]?).map Fact.P = some F0.P) (he : F0 = F) : Own w0 w bs ⟨F :: ro.sl, ro.fb, ro.no⟩ := by
  subst he
  exact h.learn F0 (h.fact' i F0 hi)
/-- A box that a call made becomes one's own. -/
theorem Own.adopt {w0 w w' : World} {bs : Boxes} {ro : Rd} {b : Nat} {o : Obj} (h : Own w0 w bs ro) (hw : Below w.heap.size w w') (hb : w'.heap[b]? = some o) (hlo : w.heap.size ≤ b) : Own w0 w' ((b, o) :: bs) ro := by
  have hold : ∀ k x, w.heap[k]? = some x → w'.heap[k]? = some x := fun k x hk => by rw [hw.block _ (getElem?_lt hk)]; exact hk
  refine ⟨h.below.trans (hw.mono h.below.size), fun p hp => ?_, fun p hp => ?_, ?_, fun r hr => ?_, fun p hp => ⟨hold _ _ (h.hfb p hp).1, fun hm => ?_⟩, fun k hk => ⟨Nat.lt_of_lt_of_le (h.hno k hk).1 hw.size, fun hm => ?_⟩⟩
  · rcases List.mem_cons.1 hp with rfl | hp
    · exact hb
    · exact hold _ _ (h.has p hp)
  · rcases List.mem_cons.1 hp with rfl | hp
    · exact Nat.le_trans h.below.size hlo
    · exact h.fresh p hp
  · simp only [List.map_cons, List.nodup_cons]
    refine ⟨fun hm => ?_, h.nodup⟩
    obtain ⟨p, hp, hpb⟩ := List.mem_map.1 hm
    have := getElem?_lt (h.has p hp)
    omega
  · refine r.st w _ _ _ (fun k x hn hk => ⟨fun hm => ?_, hold _ _ hk⟩) (h.hro r hr)
    simp only [List.map_cons, List.cons_append, List.mem_cons] at hm
    rcases hm with hm | hm
    · have := getElem?_lt hk; omega
    · exact hn hm
  · simp only [List.map_cons, List.mem_cons] at hm
    rcases hm with hm | hm
    · have := getElem?_lt (h.hfb p hp).1; omega
    · exact (h.hfb p hp).2 hm
  · simp only [List.map_cons, List.mem_cons] at hm
    rcases hm with hm | hm
    · have := (h.hno k hk).1; omega
    · exact (h.hno k hk).2 hm
theorem Own.as {w0 w : World} {bs : Boxes} {ro : Rd} (h : Own w0 w bs ro) (bs' : Boxes) (he : bs = bs') : Own w0 w bs' ro := he ▸ h
/-- Fewer facts, in another order. -/
theorem Own.ro_pick {w0 w : World} {bs : Boxes} {ro : Rd} (h : Own w0 w bs ro) (idx : List Nat) (sl' : List Fact) (hi : idx.map (fun i => (ro.sl[i]?).map Fact.P) = sl'.map (fun F => some F.P)) : Own w0 w bs ⟨sl', ro.fb, ro.no⟩ := by
  refine ⟨h.below, h.has, h.fresh, h.nodup, fun F hF => ?_, h.hfb, h.hno⟩
  have : some F.P ∈ idx.map (fun i => (ro.sl[i]?).map Fact.P) := by rw [hi]; exact List.mem_map_of_mem (f := fun F => some F.P) hF
  obtain ⟨i, _, hx⟩ := List.mem_map.1 this
  cases hr : ro.sl[i]? with
  | none => rw [hr] at hx; cases hx
  | some r =>
    rw [hr] at hx
    simp only [Option.map_some, Option.some.injEq] at hx
    rw [← hx]
    exact h.hro r (List.mem_of_getElem? hr)
/-- A box is given away: what it holds is only read from here on. -/
theorem Own.give {w0 w : World} {bs : Boxes} {ro : Rd} {b : Nat} {o : Obj} (h : Own w0 w ((b, o) :: bs) ro) (F : Fact) (hF : ∀ no, b ∉ no → w.heap[b]? = some o → F.P w no) : Own w0 w bs ⟨F :: ro.sl, ro.fb, ro.no⟩ := by
  have hnd := h.nodup
  simp only [List.map_cons, List.nodup_cons] at hnd
  refine ⟨h.below, fun p hp => h.has p (List.mem_cons_of_mem _ hp), fun p hp => h.fresh p (List.mem_cons_of_mem _ hp), hnd.2, fun r hr => ?_, fun p hp => ⟨(h.hfb p hp).1, fun hm => (h.hfb p hp).2 (by simp only [List.map_cons]; exact List.mem_cons_of_mem _ hm)⟩, fun k hk => ⟨(h.hno k hk).1, fun hm => (h.hno k hk).2 (by simp only [List.map_cons]; exact List.mem_cons_of_mem _ hm)⟩⟩
  rcases List.mem_cons.1 hr with rfl | hr
  · refine hF _ (fun hm => ?_) (h.has _ List.mem_cons_self)
    rcases List.mem_append.1 hm with hm | hm
    · exact hnd.1 hm
    · exact (h.hno b hm).2 (by simp)
  · refine r.st _ _ _ _ (fun k x hn hk => ⟨fun hm => hn ?_, hk⟩) (h.hro r hr)
    simp only [List.map_cons, List.cons_append]; exact List.mem_cons_of_mem _ hm
/-- A block that came in is known for good. -/
theorem Own.fb_old {w0 w : World} {bs : Boxes} {ro : Rd} (h : Own w0 w bs ro) {b : Nat} {o : Obj} (hb : w0.heap[b]? = some o) : Own w0 w bs ⟨ro.sl, ro.fb ++ [(b, o)], ro.no⟩ := by
  have hlt := getElem?_lt hb
  refine ⟨h.below, h.has, h.fresh, h.nodup, h.hro, fun p hp => ?_, h.hno⟩
  rcases List.mem_append.1 hp with hp | hp
  · exact h.hfb p hp
  · obtain rfl := List.mem_singleton.1 hp
    refine ⟨by rw [h.below.block _ hlt]; exact hb, fun hm => ?_⟩
    obtain ⟨p, hp, hpb⟩ := List.mem_map.1 hm
    have := h.fresh p hp
    simp at hpb
    omega
theorem Own.start (w : World) (no : List Nat) (hno : ∀ b ∈ no, b < w.heap.size) : Own w w [] ⟨[], [], no⟩ where
  below := Below.refl _ _
  has := fun _ h => nomatch h
  fresh := fun _ h => nomatch h
  nodup := List.nodup_nil
  hro := fun _ h => nomatch h
  hfb := fun _ h => nomatch h
  hno := fun b hb => ⟨hno b hb, List.not_mem_nil⟩

/-- A box is lent: to one who may write it; the others are blocks of another's that are known whole. -/
theorem Own.lend {w0 w : World} {bs : Boxes} {ro : Rd} (h : Own w0 w bs ro) (j : Nat) {p : Nat × Obj} (hj : bs[j]? = some p) : Own w0 w [p] ⟨ro.sl, ro.fb ++ bs.eraseIdx j, ro.no ++ (bs.eraseIdx j).map (·.1)⟩ := by
  have hm := List.mem_of_getElem? hj
  have hne : ∀ q ∈ bs.eraseIdx j, q.1 ≠ p.1 := fun q hq => by
    obtain ⟨k, hk⟩ := List.mem_iff_getElem?.1 hq
    rw [List.getElem?_eraseIdx] at hk
    have hne := fun i (hi : bs[i]? = some q) (hij : i ≠ j) => nodup_ne (l := bs.map (·.1)) (x := q.1) (y := p.1) h.nodup (i := i) (j := j) (by simp [hi]) (by simp [hj]) hij
    split at hk
    · exact hne k hk (by omega)
    · exact hne (k + 1) hk (by omega)
  refine ⟨h.below, fun q hq => by obtain rfl := List.mem_singleton.1 hq; exact h.has _ hm, fun q hq => by obtain rfl := List.mem_singleton.1 hq; exact h.fresh _ hm, by simp, fun r hr => ?_, fun q hq => ?_, fun b hb => ?_⟩
  · refine r.st _ _ _ _ (fun b o hn ho => ⟨fun hb => hn ?_, ho⟩) (h.hro r hr)
    simp only [List.map_cons, List.map_nil, List.mem_append, List.mem_singleton] at hb
    rcases hb with rfl | hb | hb
    · exact List.mem_append_left _ (List.mem_map.2 ⟨_, hm, rfl⟩)
    · exact List.mem_append_right _ hb
    · obtain ⟨q, hq, rfl⟩ := List.mem_map.1 hb
      exact List.mem_append_left _ (List.mem_map.2 ⟨_, List.mem_of_mem_eraseIdx hq, rfl⟩)
  · rcases List.mem_append.1 hq with hq | hq
    · exact ⟨(h.hfb q hq).1, fun hb => (h.hfb q hq).2 (by simp at hb; rw [hb]; exact List.mem_map.2 ⟨_, hm, rfl⟩)⟩
    · exact ⟨h.has q (List.mem_of_mem_eraseIdx hq), fun hb => hne q hq (by simpa using hb)⟩
  · rcases List.mem_append.1 hb with hb | hb
    · exact ⟨(h.hno b hb).1, fun hc => (h.hno b hb).2 (by simp at hc; rw [hc]; exact List.mem_map.2 ⟨_, hm, rfl⟩)⟩
    · obtain ⟨q, hq, rfl⟩ := List.mem_map.1 hb
      exact ⟨getElem?_lt (h.has q (List.mem_of_mem_eraseIdx hq)), fun hc => hne q hq (by simpa using hc)⟩
/-- .. and comes back. -/
theorem Own.back {w0 w w' : World} {bs : Boxes} {ro : Rd} {sl : List Fact} (h : Own w0 w bs ro) (j : Nat) {b : Nat} {o o' : Obj} (hj : bs[j]? = some (b, o)) (h' : Own w0 w' [(b, o')] ⟨sl, ro.fb ++ bs.eraseIdx j, ro.no ++ (bs.eraseIdx j).map (·.1)⟩) : Own w0 w' ((b, o') :: bs.eraseIdx j) ⟨sl, ro.fb, ro.no⟩ := by
  have hm := List.mem_of_getElem? hj
  have hnd : ((b :: (bs.eraseIdx j).map (·.1)) : List Nat).Nodup := by
    rw [List.nodup_cons]
    refine ⟨fun hb => ?_, List.Nodup.sublist (List.Sublist.map _ (List.eraseIdx_sublist bs j)) h.nodup⟩
    obtain ⟨q, hq, hqb⟩ := List.mem_map.1 hb
    exact (h'.hfb q (List.mem_append_right _ hq)).2 (by simp [hqb])
  refine ⟨h'.below, fun q hq => ?_, fun q hq => ?_, by simpa using hnd, fun r hr => ?_, fun q hq => ?_, fun k hk => ?_⟩
  · rcases List.mem_cons.1 hq with rfl | hq
    · exact h'.has _ List.mem_cons_self
    · exact (h'.hfb q (List.mem_append_right _ hq)).1
  · rcases List.mem_cons.1 hq with rfl | hq
    · exact h'.fresh _ List.mem_cons_self
    · exact h.fresh q (List.mem_of_mem_eraseIdx hq)
  · refine r.st _ _ _ _ (fun k x hn hx => ⟨fun hb => hn ?_, hx⟩) (h'.hro r hr)
    simp only [List.map_cons, List.cons_append, List.mem_cons, List.mem_append, List.map_nil, List.nil_append] at hb ⊢
    rcases hb with hb | hb | hb
    · exact .inl hb
    · exact .inr (.inr hb)
    · exact .inr (.inl hb)
  · refine ⟨(h'.hfb q (List.mem_append_left _ hq)).1, fun hb => ?_⟩
    simp only [List.map_cons, List.mem_cons] at hb
    rcases hb with hb | hb
    · exact (h'.hfb q (List.mem_append_left _ hq)).2 (by simp [hb])
    · obtain ⟨p, hp, hpq⟩ := List.mem_map.1 hb
      exact (h.hfb q hq).2 (List.mem_map.2 ⟨p, List.mem_of_mem_eraseIdx hp, hpq⟩)
  · refine ⟨(h'.hno k (List.mem_append_left _ hk)).1, fun hb => ?_⟩
    simp only [List.map_cons, List.mem_cons] at hb
    rcases hb with hb | hb
    · exact (h'.hno k (List.mem_append_left _ hk)).2 (by simp [hb])
    · obtain ⟨p, hp, hpk⟩ := List.mem_map.1 hb
      exact (h.hno k hk).2 (List.mem_map.2 ⟨p, List.mem_of_mem_eraseIdx hp, hpk⟩)

/-! ### The run -/
/-- The block that is looked at: a box of one's own, or one that is only read (from 1000 on). -/
def boxAt (bs fb : Boxes) (j : Nat) : Option (Nat × Obj) := bif Nat.blt j 1000 then bs[j]? else fb[j - 1000]?
def runS {α : Type} (P : Program) (fb : Boxes) (j : Nat) : Sem α → Boxes → Nat → Seen → Option (α × Boxes × Nat × Seen)
  | .pure a, bs, nx, se => some (a, bs, nx, se)
  | .load _ a k, bs, nx, se =>
    match boxAt bs fb j with
    | some (B, .cells cs _ _) => match a.spot with
      | some _ => none
      | none => match cs[a.off]? with
        | some v => runS P fb j (k v) bs nx ((a.block, B) :: se)
        | none => none
    | _ => none
  | .store _ a v k, bs, nx, se =>
    match v with
    | .agg _ => none
    | .tuple _ => none
    | v => match bs[j]? with
      | some (B, .cells cs E (0, 0)) => match a.spot with
        | some _ => none
        | none => match cs[a.off]? with
          | some _ => runS P fb j k (setNth bs j (B, .cells (cs.setIfInBounds a.off v) E (0, 0))) nx ((a.block, B) :: se)
          | none => none
      | _ => none
  | .new o k, bs, nx, se => runS P fb j (k nx) (bs ++ [(nx, o)]) (nx + 1) se
  | .shape r k, bs, nx, se =>
    match boxAt bs fb j with
    | some (B, .cells cs E _) => runS P fb j (k (some (E, cs.size))) bs nx ((r, B) :: se)
    | _ => none
  | .program k, bs, nx, se => runS P fb j (k P) bs nx se
  | .mark _ k, bs, nx, se => runS P fb j k bs nx se
  | _, _, _, _ => none

theorem runS_seen {α : Type} (P : Program) (fb : Boxes) (j : Nat) : ∀ (s : Sem α) (bs : Boxes) (nx : Nat) (se : Seen) r, runS P fb j s bs nx se = some r → ∀ p ∈ se, p ∈ r.2.2.2 := by
  intro s
  induction s with
  | pure a => intro bs nx se r h p hp; simp only [runS, Option.some.injEq] at h; subst h; exact hp
  | load m a k ih =>
    intro bs nx se r h p hp
    simp only [runS] at h
    split at h <;> try cases h
    split at h <;> try cases h
    split at h <;> try cases h
    exact ih _ _ _ _ _ h p (List.mem_cons_of_mem _ hp)
  | store m a v k ih =>
    intro bs nx se r h p hp
    simp only [runS] at h
    split at h <;> try cases h
    split at h <;> try cases h
    split at h <;> try cases h
    split at h <;> try cases h
    exact ih _ _ _ _ h p (List.mem_cons_of_mem _ hp)
  | new o k ih => intro bs nx se r h p hp; exact ih _ _ _ _ _ h p hp
  | shape q k ih =>
    intro bs nx se r h p hp
    simp only [runS] at h
    split at h <;> try cases h
    exact ih _ _ _ _ _ h p (List.mem_cons_of_mem _ hp)
  | program k ih => intro bs nx se r h p hp; exact ih _ _ _ _ _ h p hp
  | mark m k ih => intro bs nx se r h p hp; exact ih _ _ _ _ h p hp
  | _ => intro bs nx se r h; simp [runS] at h

theorem box_has {w0 w : World} {bs : Boxes} {ro : Rd} (h : Own w0 w bs ro) {j : Nat} {p : Nat × Obj} (hj : boxAt bs ro.fb j = some p) : w.heap[p.1]? = some p.2 := by
  unfold boxAt at hj
  cases hb : Nat.blt j 1000 with
  | true => rw [hb] at hj; exact h.has p (List.mem_of_getElem? hj)
  | false => rw [hb] at hj; exact (h.hfb p (List.mem_of_getElem? hj)).1
theorem runS_sound {α : Type} (P : Program) (j : Nat) {w0 : World} {ro : Rd} : ∀ (s : Sem α) (bs : Boxes) (se : Seen) (w : World) r, runS P ro.fb j s bs w.heap.size se = some r → (∀ p ∈ r.2.2.2, p.1 = p.2) → Own w0 w bs ro →
    ∃ w', s.run P w = .ok r.1 w' ∧ Own w0 w' r.2.1 ro ∧ w'.heap.size = r.2.2.1 := by
  intro s
  induction s with
  | pure a => intro bs se w r h _ ho; simp only [runS, Option.some.injEq] at h; subst h; exact ⟨w, rfl, ho, rfl⟩
  | load m a k ih =>
    intro bs se w r h hse ho
    simp only [runS] at h
    split at h
    · rename_i B cs E fr hj
      split at h
      · cases h
      · rename_i hs
        split at h
        · rename_i v hv
          have hab : a.block = B := hse _ (runS_seen P ro.fb j _ _ _ _ _ h _ List.mem_cons_self)
          have hcell : w.cell? a = some v := by
            simp only [World.cell?, hab, box_has ho hj, hs]; simpa using hv
          obtain ⟨w', hr, ho', hz⟩ := ih v bs _ w r h hse ho
          exact ⟨w', by simp only [Sem.run, hcell]; exact hr, ho', hz⟩
        · cases h
    · cases h
  | store m a v k ih =>
    intro bs se w r h hse ho
    simp only [runS] at h
    split at h
    · cases h
    · cases h
    · rename_i hna hnt
      split at h
      · rename_i B cs E hj
        split at h
        · cases h
        · rename_i hs
          split at h
          · rename_i u hu
            have hab : a.block = B := hse _ (runS_seen P ro.fb j _ _ _ _ _ h _ List.mem_cons_self)
            have hblk : w.heap[a.block]? = some (.cells cs E (0, 0)) := by rw [hab]; exact ho.has _ (List.mem_of_getElem? hj)
            have hcell : w.cell? a = some u := by simp only [World.cell?, hblk, hs]; simpa using hu
            have hfr : w.frozen? a = false := by simp [World.frozen?, hblk]
            have hown := ho.set hj hab hs v
            have hsz : (w.setCell a v).heap.size = w.heap.size := by simp [World.setCell]
            rw [← hsz] at h
            obtain ⟨w', hr, ho', hz⟩ := ih _ _ (w.setCell a v) r h hse hown
            refine ⟨w', ?_, ho', hz⟩
            rw [← hr]
            cases v <;> first
              | exact absurd rfl (hna _)
              | exact absurd rfl (hnt _)
              | (simp only [Sem.run, hcell, hfr]; rfl)
          · cases h
      · cases h
  | new o k ih =>
    intro bs se w r h hse ho
    simp only [runS] at h
    have hsz : (w.alloc o).heap.size = w.heap.size + 1 := by show (w.heap.push o).size = _; simp
    rw [← hsz] at h
    obtain ⟨w', hr, ho', hz⟩ := ih w.heap.size _ _ (w.alloc o) r h hse (ho.alloc o)
    exact ⟨w', hr, ho', hz⟩
  | shape q k ih =>
    intro bs se w r h hse ho
    simp only [runS] at h
    split at h
    · rename_i B cs E fr hj
      have hab : q = B := hse _ (runS_seen P ro.fb j _ _ _ _ _ h _ List.mem_cons_self)
      have hsh : w.shape? q = some (E, cs.size) := by simp only [World.shape?, hab, box_has ho hj]
      obtain ⟨w', hr, ho', hz⟩ := ih _ bs _ w r h hse ho
      exact ⟨w', by simp only [Sem.run, hsh]; exact hr, ho', hz⟩
    · cases h
  | program k ih => intro bs se w r h hse ho; exact ih _ _ _ w r h hse ho
  | mark m k ih => intro bs se w r h hse ho; exact ih _ _ w r h hse ho
  | _ => intro bs se w r h; simp [runS] at h

/-! ### An operation, and a row of them -/
def isSel : Op → Bool
  | .select _ _ => true
  | _ => false
theorem not_sel {o : Op} (h : isSel o = false) : ∀ cs b, o ≠ .select cs b := fun cs b e => by subst e; cases h
def wantedE (ops : Array Oper) (e : Env) (o : Oper) : Option Bool :=
  match o.guard with
  | none => some true
  | some (g, want) => match (ops[g]?).bind (·.dst) with
    | none => none
    | some t => match Env.get e t with
      | none => none
      | some (.bool b) => some (b == want)
      | some _ => some false
theorem wantedE_sound {ops : Array Oper} {n : Nat} {a : Act} {e : Env} (h : Agrees n a e) {o : Oper} {b : Bool} (hw : wantedE ops e o = some b) : Region.wanted o (yielded ops a.tmps) = b := by
  unfold wantedE at hw
  unfold Region.wanted
  split at hw
  · rename_i hg; simp only [hg]; simpa using hw
  · rename_i g want hg
    simp only [hg]
    split at hw
    · cases hw
    · rename_i t ht
      unfold yielded
      simp only [ht, Option.bind_some]
      split at hw
      · cases hw
      · rename_i b' hb
        rw [h.get t _ hb]
        simp only [Option.some.injEq] at hw
        subst hw
        cases b' <;> cases want <;> rfl
      · rename_i v hb hv
        rw [h.get t _ hv]
        simp only [Option.some.injEq] at hw
        subst hw
        cases v <;> first | rfl | exact absurd rfl (hb _)
def bindE (n : Nat) (dst : Option Nat) (v : Value) (e : Env) : Option Env :=
  match dst with
  | none => some e
  | some d => bif Nat.blt d n then some ((d, v) :: e) else none
theorem bindE_sound {n : Nat} {a : Act} {e e' : Env} {dst : Option Nat} {v : Value} (h : Agrees n a e) (hb : bindE n dst v e = some e') : Agrees n (a.put dst v) e' := by
  unfold bindE at hb
  split at hb
  · simp only [Option.some.injEq] at hb; subst hb; exact h.none v
  · rename_i d
    cases hd : Nat.blt d n with
    | false => simp [hd] at hb
    | true => simp only [hd, cond_true, Option.some.injEq] at hb; subst hb; exact h.put (by simpa [Nat.blt_eq] using hd) v
abbrev Res := Env × Boxes × Nat × Seen
/-- One operation. -/
def stepE (P : Program) (fb : Boxes) (ops : Array Oper) (n : Nat) (i j : Nat) (e : Env) (bs : Boxes) (nx : Nat) (se : Seen) : Option Res :=
  match ops[i]? with
  | none => none
  | some o => match wantedE ops e o with
    | none => none
    | some false => (bindE n o.dst undef e).map fun e' => (e', bs, nx, se)
    | some true =>
      bif isSel o.op || !o.op.operands.toList.all (known e) then none else
      match runS P fb j (execOp (rho e) o) bs nx se with
      | some (.value v, bs', nx', se') => (bindE n o.dst v e).map fun e' => (e', bs', nx', se')
      | some (.skip, bs', nx', se') => (bindE n o.dst undef e).map fun e' => (e', bs', nx', se')
      | _ => none
def runL (P : Program) (fb : Boxes) (ops : Array Oper) (n : Nat) : List (Nat × Nat) → Env → Boxes → Nat → Seen → Option Res
  | [], e, bs, nx, se => some (e, bs, nx, se)
  | p :: l, e, bs, nx, se => match stepE P fb ops n p.1 p.2 e bs nx se with
    | none => none
    | some (e', bs', nx', se') => runL P fb ops n l e' bs' nx' se'
theorem stepE_seen {P : Program} {fb : Boxes} {ops : Array Oper} {n i j : Nat} {e : Env} {bs : Boxes} {nx : Nat} {se : Seen} {r : Res} (h : stepE P fb ops n i j e bs nx se = some r) : ∀ p ∈ se, p ∈ r.2.2.2 := by
  unfold stepE at h
  split at h
  · cases h
  · split at h
    · cases h
    · obtain ⟨e', _, rfl⟩ := Option.map_eq_some_iff.1 h
      exact fun p hp => hp
    · cases hc : (isSel _ || !List.all _ (known e)) with
      | true => rw [hc] at h; cases h
      | false =>
        rw [hc] at h
        simp only [cond_false] at h
        split at h
        · rename_i hr
          obtain ⟨e', _, rfl⟩ := Option.map_eq_some_iff.1 h
          exact fun p hp => runS_seen _ _ _ _ _ _ _ _ hr p hp
        · rename_i hr
          obtain ⟨e', _, rfl⟩ := Option.map_eq_some_iff.1 h
          exact fun p hp => runS_seen _ _ _ _ _ _ _ _ hr p hp
        · cases h
theorem runL_seen {P : Program} {fb : Boxes} {ops : Array Oper} {n : Nat} : ∀ (l : List (Nat × Nat)) {e : Env} {bs : Boxes} {nx : Nat} {se : Seen} {r : Res}, runL P fb ops n l e bs nx se = some r → ∀ p ∈ se, p ∈ r.2.2.2
  | [], e, bs, nx, se, r, h => by simp only [runL, Option.some.injEq] at h; subst h; exact fun p hp => hp
  | q :: l, e, bs, nx, se, r, h => by
    simp only [runL] at h
    split at h
    · cases h
    · rename_i hs
      exact fun p hp => runL_seen l h p (stepE_seen hs p hp)
section
variable {P : Program} {ops : Array Oper} {Q : Exit → Act → World → Prop} {n : Nat} {w0 : World} {ro : Rd}
theorem wpOp_step {i j : Nat} {e : Env} {bs : Boxes} {a : Act} {w : World} {se : Seen} {r : Res} {K : Act → World → Prop} (h : stepE P ro.fb ops n i j e bs w.heap.size se = some r) (hse : ∀ p ∈ r.2.2.2, p.1 = p.2)
    (hA : Agrees n a e) (hO : Own w0 w bs ro) (hK : ∀ a' w', Agrees n a' r.1 → Own w0 w' r.2.1 ro → w'.heap.size = r.2.2.1 → K a' w') : wpOp P ops Q i K a w := by
  unfold stepE at h
  split at h
  · cases h
  · rename_i o ho
    unfold wpOp
    simp only [ho]
    split at h
    · cases h
    · rename_i hw
      obtain ⟨e', he, rfl⟩ := Option.map_eq_some_iff.1 h
      rw [wantedE_sound hA hw]
      exact hK _ _ (bindE_sound hA he) hO rfl
    · rename_i hw
      rw [wantedE_sound hA hw]
      cases hc : (isSel o.op || !List.all _ (known e)) with
      | true => rw [hc] at h; cases h
      | false =>
        rw [hc] at h
        simp only [cond_false] at h
        simp only [Bool.or_eq_false_iff, Bool.not_eq_false'] at hc
        simp only [if_true]
        refine .inl ?_
        unfold Oper.wp
        rw [execOp_env hA hc.2 (not_sel hc.1)]
        split at h
        · rename_i v bs' nx' se' hr
          obtain ⟨e', he, rfl⟩ := Option.map_eq_some_iff.1 h
          obtain ⟨w', hrun, ho', hz⟩ := runS_sound P j _ bs se w _ hr hse hO
          rw [hrun]
          exact hK _ _ (bindE_sound hA he) ho' hz
        · rename_i bs' nx' se' hr
          obtain ⟨e', he, rfl⟩ := Option.map_eq_some_iff.1 h
          obtain ⟨w', hrun, ho', hz⟩ := runS_sound P j _ bs se w _ hr hse hO
          rw [hrun]
          exact hK _ _ (bindE_sound hA he) ho' hz
        · cases h
theorem wpOps_run : ∀ (l : List (Nat × Nat)) {rest : List Nat} {e : Env} {bs : Boxes} {a : Act} {w : World} {se : Seen} {r : Res}, runL P ro.fb ops n l e bs w.heap.size se = some r → (∀ p ∈ r.2.2.2, p.1 = p.2) →
    Agrees n a e → Own w0 w bs ro → (∀ a' w', Agrees n a' r.1 → Own w0 w' r.2.1 ro → wpOps P ops Q rest a' w') → wpOps P ops Q (l.map (·.1) ++ rest) a w
  | [], rest, e, bs, a, w, se, r, h, hse, hA, hO, hK => by
    simp only [runL, Option.some.injEq] at h; subst h; exact hK a w hA hO
  | q :: l, rest, e, bs, a, w, se, r, h, hse, hA, hO, hK => by
    simp only [runL] at h
    split at h
    · cases h
    · rename_i e' bs' nx' se' hs
      rw [List.map_cons, List.cons_append, wpOps_cons]
      refine wpOp_step hs (fun p hp => hse p (runL_seen l h p hp)) hA hO fun a' w' hA' hO' hz => ?_
      refine wpOps_run l (se := se') (r := r) ?_ hse hA' hO' hK
      rw [hz]; exact h
end
def Res.fsts (r : Res) : List Nat := r.2.2.2.map (·.1)
def Res.snds (r : Res) : List Nat := r.2.2.2.map (·.2)
theorem seen_eq : ∀ {l : Seen}, l.map (·.1) = l.map (·.2) → ∀ p ∈ l, p.1 = p.2
  | [], _, _, h => by cases h
  | q :: l, h, p, hp => by
    simp only [List.map_cons, List.cons.injEq] at h
    rcases List.mem_cons.1 hp with rfl | hp
    · exact h.1
    · exact seen_eq h.2 p hp
/-- What a row of operations leaves: 'r' unreckoned. -/
def after (r : Option Res) : Res := r.getD ([], [], 0, [])
theorem of_after {r : Option Res} (h : r.map Res.fsts = some (Res.snds (after r))) : r = some (after r) ∧ ∀ p ∈ (after r).2.2.2, p.1 = p.2 := by
  cases r with
  | none => cases h
  | some r => exact ⟨rfl, seen_eq (by simpa [Res.fsts, Res.snds, after] using h)⟩
/-- The operations to come, each with its box. -/
def hinted (ks js : List Nat) : List (Nat × Nat) := (ks.take js.length).zip js
section
variable {P : Program} {Q : Exit → Act → World → Prop} {n : Nat} {w0 : World} {ro : Rd} {e : Env} {bs : Boxes} {a : Act} {w : World}
/-- **A ROW OF OPERATIONS, RUN.** -/
theorem batch {ops : Array Oper} {ks : List Nat} (js : List Nat) (A : Agrees n a e) (H : Own w0 w bs ro)
    (hr : (runL P ro.fb ops n (hinted ks js) e bs w.heap.size []).map Res.fsts = some (Res.snds (after (runL P ro.fb ops n (hinted ks js) e bs w.heap.size []))))
    (hk : ks = (hinted ks js).map (·.1) ++ ks.drop js.length)
    (K : ∀ a' w', Agrees n a' (after (runL P ro.fb ops n (hinted ks js) e bs w.heap.size [])).1 → Own w0 w' (after (runL P ro.fb ops n (hinted ks js) e bs w.heap.size [])).2.1 ro → wpOps P ops Q (ks.drop js.length) a' w') : wpOps P ops Q ks a w := by
  obtain ⟨h1, h2⟩ := of_after hr
  rw [hk]
  exact wpOps_run _ h1 h2 A H K
/-- A whole region that goes in the order of its text, and what stands behind it. -/
theorem region {id : Nat} {ops : Array Oper} (js : List Nat) (A : Agrees n a e) (H : Own w0 w bs ro)
    (hr : (runL P ro.fb ops n (hinted (List.range ops.size) js) e bs w.heap.size []).map Res.fsts = some (Res.snds (after (runL P ro.fb ops n (hinted (List.range ops.size) js) e bs w.heap.size []))))
    (hk : List.range ops.size = (hinted (List.range ops.size) js).map (·.1))
    (K : ∀ a' w', Agrees n a' (after (runL P ro.fb ops n (hinted (List.range ops.size) js) e bs w.heap.size [])).1 → Own w0 w' (after (runL P ro.fb ops n (hinted (List.range ops.size) js) e bs w.heap.size [])).2.1 ro → Q .normal a' w') :
    (Code.region id ops false).wp P Q a w := by
  obtain ⟨h1, h2⟩ := of_after hr
  refine wp_region ?_
  rw [hk]
  have := wpOps_run (P := P) (ops := ops) (Q := Q) (rest := []) _ h1 h2 A H K
  simpa using this
theorem ops_done {ops : Array Oper} {ks : List Nat} (hk : ks = []) (K : Q .normal a w) : wpOps P ops Q ks a w := by subst hk; exact K
/-- The call that stands next. -/
def callOf (P : Program) (ops : Array Oper) (e : Env) (ks : List Nat) : Option (Nat × Array Value) :=
  match ks with
  | [] => none
  | i :: _ => match ops[i]? with
    | none => none
    | some o => match wantedE ops e o with
      | some true =>
        bif isSel o.op || !o.op.operands.toList.all (known e) then none else
        match runS P [] 0 (execOp (rho e) o) [] 0 [] with
        | some (.enter f args, [], 0, []) => some (f, args)
        | _ => none
      | _ => none
def dstOf (ops : Array Oper) (ks : List Nat) : Option Nat :=
  match ks with
  | [] => none
  | i :: _ => (ops[i]?).bind (·.dst)
def put1 (n : Nat) (ops : Array Oper) (ks : List Nat) (v : Value) (e : Env) : Env := (bindE n (dstOf ops ks) v e).getD e
theorem runS_pure {α : Type} (P : Program) (j : Nat) {r : α} : ∀ (s : Sem α), runS P [] j s [] 0 [] = some (r, [], 0, []) → ∀ w, s.run P w = .ok r w := by
  intro s
  induction s with
  | pure a => intro h w; simp only [runS, Option.some.injEq, Prod.mk.injEq] at h; obtain ⟨rfl, _⟩ := h; rfl
  | new o k ih =>
    intro h
    exfalso
    have key : ∀ {β : Type} (s : Sem β) (bs : Boxes) (nx : Nat) (se : Seen) r, runS P [] j s bs nx se = some r → nx ≤ r.2.2.1 := by
      intro β s
      induction s with
      | pure a => intro bs nx se r h; simp only [runS, Option.some.injEq] at h; subst h; exact Nat.le_refl _
      | load m a k ih =>
        intro bs nx se r h
        simp only [runS] at h
        split at h <;> try cases h
        split at h <;> try cases h
        split at h <;> try cases h
        exact ih _ _ _ _ _ h
      | store m a v k ih =>
        intro bs nx se r h
        simp only [runS] at h
        split at h <;> try cases h
        split at h <;> try cases h
        split at h <;> try cases h
        split at h <;> try cases h
        exact ih _ _ _ _ h
      | new o k ih => intro bs nx se r h; exact Nat.le_trans (Nat.le_succ _) (ih _ _ _ _ _ h)
      | shape q k ih =>
        intro bs nx se r h
        simp only [runS] at h
        split at h <;> try cases h
        exact ih _ _ _ _ _ h
      | program k ih => intro bs nx se r h; exact ih _ _ _ _ _ h
      | mark m k ih => intro bs nx se r h; exact ih _ _ _ _ h
      | _ => intro bs nx se r h; simp [runS] at h
    simp only [runS] at h
    have := key _ _ _ _ _ h
    simp at this
  | program k ih => intro h w; exact ih _ h w
  | mark m k ih => intro h w; exact ih h w
  | store m a v k ih => intro h; cases v <;> simp [runS] at h
  | load m a k ih => intro h; have hb : boxAt [] [] j = none := (by unfold boxAt; cases Nat.blt j 1000 <;> rfl); simp [runS, hb] at h
  | shape q k ih => intro h; have hb : boxAt [] [] j = none := (by unfold boxAt; cases Nat.blt j 1000 <;> rfl); simp [runS, hb] at h
  | _ => intro h; simp [runS] at h
theorem callOf_sound {ops : Array Oper} {i : Nat} {ks : List Nat} {f : Nat} {args : Array Value} {K : Act → World → Prop} (A : Agrees n a e) (hx : callOf P ops e (i :: ks) = some (f, args))
    (hc : Calls P f args w fun | .returned v, w'' => K (a.put (dstOf ops (i :: ks)) v) w'' | .panicked chain, w'' => Q (.panic chain) a w'' | .outgrown, _ => LetsOut Q) : wpOp P ops Q i K a w := by
  unfold callOf at hx
  simp only at hx
  unfold wpOp
  split at hx
  · cases hx
  · rename_i o ho
    simp only [ho]
    split at hx
    · rename_i hw
      rw [wantedE_sound A hw]
      cases hc' : (isSel o.op || !List.all _ (known e)) with
      | true => rw [hc'] at hx; cases hx
      | false =>
        rw [hc'] at hx
        simp only [cond_false] at hx
        simp only [Bool.or_eq_false_iff, Bool.not_eq_false'] at hc'
        simp only [if_true]
        refine .inl ?_
        unfold Oper.wp
        rw [execOp_env A hc'.2 (not_sel hc'.1)]
        split at hx
        · rename_i f' args' hr
          simp only [Option.some.injEq, Prod.mk.injEq] at hx
          obtain ⟨rfl, rfl⟩ := hx
          rw [runS_pure P 0 _ hr w]
          simp only [dstOf, ho, Option.bind_some] at hc
          exact hc
        · cases hx
    · cases hx
/-- What a call comes to: it returns, and writes nothing that was there. -/
def Rets (P : Program) (f : Nat) (args : Array Value) (w : World) (Φ : Value → World → Prop) : Prop :=
  Calls P f args w fun e w' => ∃ v, e = .returned v ∧ Below w.heap.size w w' ∧ Φ v w'
/-- .. a value that is known. -/
def Gives (P : Program) (f : Nat) (args : Array Value) (w : World) (v : Value) : Prop := Rets P f args w fun u _ => u = v
theorem Rets.mono {f : Nat} {args : Array Value} {Φ Ψ : Value → World → Prop} (h : Rets P f args w Φ) (hh : ∀ v w', Φ v w' → Ψ v w') : Rets P f args w Ψ :=
  Calls.mono h fun e w' ⟨v, he, hb, hv⟩ => ⟨v, he, hb, hh v w' hv⟩
theorem bind_put {ops : Array Oper} {ks : List Nat} (A : Agrees n a e) (hd : (bindE n (dstOf ops ks) undef e).isSome = true) (v : Value) : Agrees n (a.put (dstOf ops ks) v) (put1 n ops ks v e) := by
  have : bindE n (dstOf ops ks) v e = some (put1 n ops ks v e) := by
    unfold put1
    unfold bindE at hd ⊢
    split at hd
    · rfl
    · rename_i d _
      cases hb : Nat.blt d n with
      | false => rw [hb] at hd; cases hd
      | true => rfl
  exact bindE_sound A this
theorem call {ops : Array Oper} {ks : List Nat} {f : Nat} {args : Array Value} {Φ : Value → World → Prop} (A : Agrees n a e) (H : Own w0 w bs ro) (hc : Rets P f args w Φ)
    (hx : callOf P ops e ks = some (f, args)) (hd : (bindE n (dstOf ops ks) undef e).isSome = true)
    (K : ∀ v a' w', Φ v w' → Agrees n a' (put1 n ops ks v e) → Own w0 w' bs ro → wpOps P ops Q (ks.drop 1) a' w') : wpOps P ops Q ks a w := by
  cases ks with
  | nil => cases hx
  | cons i ks =>
    rw [wpOps_cons]
    refine callOf_sound A hx (Calls.mono hc ?_)
    rintro e' w' ⟨v, rfl, hb, hv⟩
    exact K v _ w' hv (bind_put A hd v) (H.later hb)
theorem callG {ops : Array Oper} {ks : List Nat} {f : Nat} {args : Array Value} {v : Value} (A : Agrees n a e) (H : Own w0 w bs ro) (hc : Gives P f args w v)
    (hx : callOf P ops e ks = some (f, args)) (hd : (bindE n (dstOf ops ks) undef e).isSome = true)
    (K : ∀ a' w', Agrees n a' (put1 n ops ks v e) → Own w0 w' bs ro → wpOps P ops Q (ks.drop 1) a' w') : wpOps P ops Q ks a w :=
  call A H hc hx hd fun u a' w' hu A' H' => by subst hu; exact K a' w' A' H'
/-- A call, with all that is told of it. -/
theorem callW {ops : Array Oper} {ks : List Nat} {f : Nat} {args : Array Value} {Ψ : Value → World → Prop} (A : Agrees n a e) (hc : Calls P f args w fun e w' => ∃ v, e = .returned v ∧ Ψ v w')
    (hx : callOf P ops e ks = some (f, args)) (hd : (bindE n (dstOf ops ks) undef e).isSome = true)
    (K : ∀ v a' w', Ψ v w' → Agrees n a' (put1 n ops ks v e) → wpOps P ops Q (ks.drop 1) a' w') : wpOps P ops Q ks a w := by
  cases ks with
  | nil => cases hx
  | cons i ks =>
    rw [wpOps_cons]
    refine callOf_sound A hx (Calls.mono hc ?_)
    rintro e' w' ⟨v, rfl, hv⟩
    exact K v _ w' hv (bind_put A hd v)
/-- An operation whose value is shown by hand. -/
def operOf (P : Program) (ops : Array Oper) (e : Env) (ks : List Nat) : Option (Sem Next) :=
  match ks with
  | [] => none
  | i :: _ => match ops[i]? with
    | none => none
    | some o => match wantedE ops e o with
      | some true => bif isSel o.op || !o.op.operands.toList.all (known e) then none else some (execOp (rho e) o)
      | _ => none
theorem given {ops : Array Oper} {ks : List Nat} {s : Sem Next} {w' : World} {v : Value} (A : Agrees n a e) (hv : s.run P w = .ok (.value v) w') (hx : operOf P ops e ks = some s)
    (hd : (bindE n (dstOf ops ks) undef e).isSome = true)
    (K : ∀ a', Agrees n a' (put1 n ops ks v e) → wpOps P ops Q (ks.drop 1) a' w') : wpOps P ops Q ks a w := by
  cases ks with
  | nil => cases hx
  | cons i ks =>
    rw [wpOps_cons]
    unfold operOf at hx
    simp only at hx
    unfold wpOp
    split at hx
    · cases hx
    · rename_i o ho
      simp only [ho]
      split at hx
      · rename_i hw
        rw [wantedE_sound A hw]
        cases hc' : (isSel o.op || !List.all _ (known e)) with
        | true => rw [hc'] at hx; cases hx
        | false =>
          rw [hc'] at hx
          simp only [cond_false, Option.some.injEq] at hx
          simp only [Bool.or_eq_false_iff, Bool.not_eq_false'] at hc'
          simp only [if_true]
          refine .inl ?_
          unfold Oper.wp
          rw [execOp_env A hc'.2 (not_sel hc'.1), hx, hv]
          have := K _ (bind_put A hd v)
          simp only [dstOf, ho, Option.bind_some] at this
          exact this
      · cases hx
/-- .. that yields none. -/
theorem givenS {ops : Array Oper} {ks : List Nat} {s : Sem Next} {w' : World} (A : Agrees n a e) (hv : s.run P w = .ok .skip w') (hx : operOf P ops e ks = some s)
    (hd : (bindE n (dstOf ops ks) undef e).isSome = true)
    (K : ∀ a', Agrees n a' (put1 n ops ks undef e) → wpOps P ops Q (ks.drop 1) a' w') : wpOps P ops Q ks a w := by
  cases ks with
  | nil => cases hx
  | cons i ks =>
    rw [wpOps_cons]
    unfold operOf at hx
    simp only at hx
    unfold wpOp
    split at hx
    · cases hx
    · rename_i o ho
      simp only [ho]
      split at hx
      · rename_i hw
        rw [wantedE_sound A hw]
        cases hc' : (isSel o.op || !List.all _ (known e)) with
        | true => rw [hc'] at hx; cases hx
        | false =>
          rw [hc'] at hx
          simp only [cond_false, Option.some.injEq] at hx
          simp only [Bool.or_eq_false_iff, Bool.not_eq_false'] at hc'
          simp only [if_true]
          refine .inl ?_
          unfold Oper.wp
          rw [execOp_env A hc'.2 (not_sel hc'.1), hx, hv]
          have := K _ (bind_put A hd undef)
          simp only [dstOf, ho, Option.bind_some] at this
          exact this
      · cases hx
/-! ### Code -/
theorem seq {x y : Code} (h : x.wp P (Exit.then (y.wp P Q) Q) a w) : (Code.seq x y).wp P Q a w := wp_seq h
theorem cond {c : Operand} {x y : Code} (b : Bool) (A : Agrees n a e) (hb : rho e c = .bool b) (hk : known e c = true) (ht : b = true → x.wp P Q a w) (hf : b = false → y.wp P Q a w) : (Code.cond c x y).wp P Q a w :=
  wp_cond_split (by rw [A.eval hk, hb]) ht hf
theorem condT {c : Operand} {x y : Code} (A : Agrees n a e) (hb : rho e c = .bool true) (hk : known e c = true) (ht : x.wp P Q a w) : (Code.cond c x y).wp P Q a w := wp_cond_true (by rw [A.eval hk, hb]) ht
theorem condF {c : Operand} {x y : Code} (A : Agrees n a e) (hb : rho e c = .bool false) (hk : known e c = true) (hf : y.wp P Q a w) : (Code.cond c x y).wp P Q a w := wp_cond_false (by rw [A.eval hk, hb]) hf
theorem then_n {N : Act → World → Prop} (h : N a w) : Exit.then N Q .normal a w := h
theorem blk_n {id : Nat} (h : Q .normal a w) : Exit.inBlock id Q .normal a w := h
theorem blk_exit {id : Nat} (h : Q .normal a w) : Exit.inBlock id Q (.exit id) a w := by simp only [Exit.inBlock, if_true]; exact h
/-- Code is walked with what must hold behind it told once: its ways meet again. -/
theorem cut {c : Code} (J : Act → World → Prop) (h1 : c.wp P (fun x a' w' => match x with | .normal => J a' w' | x => Q x a' w') a w) (h2 : ∀ a' w', J a' w' → Q .normal a' w') : c.wp P Q a w :=
  wp_mono h1 fun x a' w' h => by cases x <;> first | exact h2 _ _ h | exact h
/-! ### Begin and end -/
def enum : Nat → List Value → Env
  | _, [] => []
  | i, v :: l => (i, v) :: enum (i + 1) l
theorem enum_get : ∀ (l : List Value) (i t : Nat) (v : Value), Env.get (enum i l) t = some v → i ≤ t ∧ l[t - i]? = some v
  | [], _, _, _, h => by cases h
  | u :: l, i, t, v, h => by
    rw [enum, Env.get_cons] at h
    by_cases hit : i = t
    · subst hit; rw [if_pos rfl] at h; simpa using h
    · rw [if_neg hit] at h
      obtain ⟨h1, h2⟩ := enum_get l (i + 1) t v h
      refine ⟨by omega, ?_⟩
      have : t - i = (t - (i + 1)) + 1 := by omega
      rw [this]; simpa using h2
/-- .. in the midst of a caller's walk. -/
theorem enterA {f : Nat} {fn : Func} {c : Code} {args : List Value} {R : Ending → World → Prop} (n : Nat) (hf : P.funcs[f]? = some fn) (hb : fn.body = some c) (hn : n = args.length + (fn.ntmps - args.length))
    (h : ∀ a, Agrees n a (enum 0 args) → c.wp P (bodyPost P fn R) a w) : Calls P f args.toArray w R := by
  refine calls_of_wp hf hb (h _ ⟨rfl, by simp [hn], fun t v hv => ?_⟩)
  obtain ⟨_, h2⟩ := enum_get args 0 t v hv
  rw [Nat.sub_zero] at h2
  have hlt := (List.getElem?_eq_some_iff.1 h2).1
  rw [Array.getElem?_append_left (by simpa using hlt)]
  simpa using h2
theorem enter {f : Nat} {fn : Func} {c : Code} {args : List Value} {R : Ending → World → Prop} (n : Nat) (hf : P.funcs[f]? = some fn) (hb : fn.body = some c) (hn : n = args.length + (fn.ntmps - args.length))
    (h : ∀ a, Agrees n a (enum 0 args) → Own w w [] ⟨[], [], []⟩ → c.wp P (bodyPost P fn R) a w) : Calls P f args.toArray w R := enterA n hf hb hn fun a A => h a A (Own.start w [] (fun _ h => nomatch h))
/-- .. with blocks that are another's. -/
theorem enterN {f : Nat} {fn : Func} {c : Code} {args : List Value} {R : Ending → World → Prop} {no : List Nat} (hno : ∀ b ∈ no, b < w.heap.size) (n : Nat) (hf : P.funcs[f]? = some fn) (hb : fn.body = some c) (hn : n = args.length + (fn.ntmps - args.length))
    (h : ∀ a, Agrees n a (enum 0 args) → Own w w [] ⟨[], [], no⟩ → c.wp P (bodyPost P fn R) a w) : Calls P f args.toArray w R := enterA n hf hb hn fun a A => h a A (Own.start w no hno)
def resOf (e : Env) : ResultVar → Sem Value
  | .tmp t => pure ((Env.get e t).getD undef)
  | .cell t T => do loadVar T (← asAddr ((Env.get e t).getD undef))
def resKnown (e : Env) : ResultVar → Bool
  | .tmp t => (Env.get e t).isSome
  | .cell t _ => (Env.get e t).isSome
/-- Reading alone. -/
def runR {α : Type} (P : Program) (fb : Boxes) (j : Nat) : Sem α → Boxes → Seen → Option (α × Seen)
  | .pure a, _, se => some (a, se)
  | .load _ a k, bs, se =>
    match boxAt bs fb j with
    | some (B, .cells cs _ _) => match a.spot with
      | some _ => none
      | none => match cs[a.off]? with
        | some v => runR P fb j (k v) bs ((a.block, B) :: se)
        | none => none
    | _ => none
  | .program k, bs, se => runR P fb j (k P) bs se
  | _, _, _ => none
theorem runR_seen {α : Type} (P : Program) (fb : Boxes) (j : Nat) : ∀ (s : Sem α) (bs : Boxes) (se : Seen) r, runR P fb j s bs se = some r → ∀ p ∈ se, p ∈ r.2 := by
  intro s
  induction s with
  | pure a => intro bs se r h p hp; simp only [runR, Option.some.injEq] at h; subst h; exact hp
  | load m a k ih =>
    intro bs se r h p hp
    simp only [runR] at h
    split at h <;> try cases h
    split at h <;> try cases h
    split at h <;> try cases h
    exact ih _ _ _ _ h p (List.mem_cons_of_mem _ hp)
  | program k ih => intro bs se r h p hp; exact ih _ _ _ _ h p hp
  | _ => intro bs se r h; simp [runR] at h
theorem boxAt_has {bs fb : Boxes} {w : World} (ho : ∀ p ∈ bs, w.heap[p.1]? = some p.2) (hf : ∀ p ∈ fb, w.heap[p.1]? = some p.2) {j : Nat} {p : Nat × Obj} (hj : boxAt bs fb j = some p) : w.heap[p.1]? = some p.2 := by
  unfold boxAt at hj
  cases hb : Nat.blt j 1000 with
  | true => rw [hb] at hj; exact ho p (List.mem_of_getElem? hj)
  | false => rw [hb] at hj; exact hf p (List.mem_of_getElem? hj)
theorem runR_sound {α : Type} (P : Program) (j : Nat) {bs fb : Boxes} {w : World} (ho : ∀ p ∈ bs, w.heap[p.1]? = some p.2) (hf : ∀ p ∈ fb, w.heap[p.1]? = some p.2) : ∀ (s : Sem α) (se : Seen) r, runR P fb j s bs se = some r → (∀ p ∈ r.2, p.1 = p.2) → s.run P w = .ok r.1 w := by
  intro s
  induction s with
  | pure a => intro se r h _; simp only [runR, Option.some.injEq] at h; subst h; rfl
  | load m a k ih =>
    intro se r h hse
    simp only [runR] at h
    split at h
    · rename_i B cs E fr hj
      split at h
      · cases h
      · rename_i hs
        split at h
        · rename_i v hv
          have hab : a.block = B := hse _ (runR_seen P fb j _ _ _ _ h _ List.mem_cons_self)
          have hcell : w.cell? a = some v := by
            simp only [World.cell?, hab, boxAt_has ho hf hj, hs]; simpa using hv
          simp only [Sem.run, hcell]; exact ih v _ r h hse
        · cases h
    · cases h
  | program k ih => intro se r h hse; exact ih _ _ r h hse
  | _ => intro se r h; simp [runR] at h
def runRs (P : Program) (fb : Boxes) (e : Env) (bs : Boxes) : List (ResultVar × Nat) → Seen → Option (List Value × Seen)
  | [], se => some ([], se)
  | r :: l, se => bif resKnown e r.1 then
      match runR P fb r.2 (resOf e r.1) bs se with
      | some (v, se') => match runRs P fb e bs l se' with
        | some (vs, se'') => some (v :: vs, se'')
        | none => none
      | none => none
    else none
theorem runRs_seen (P : Program) (fb : Boxes) (e : Env) (bs : Boxes) : ∀ (l : List (ResultVar × Nat)) (se : Seen) r, runRs P fb e bs l se = some r → ∀ p ∈ se, p ∈ r.2
  | [], se, r, h => by simp only [runRs, Option.some.injEq] at h; subst h; exact fun p hp => hp
  | q :: l, se, r, h => by
    simp only [runRs] at h
    cases hc : resKnown e q.1 with
    | false => rw [hc] at h; cases h
    | true =>
      rw [hc] at h
      simp only [cond_true] at h
      split at h
      · rename_i v se' h1
        split at h
        · rename_i vs se'' h2
          simp only [Option.some.injEq] at h; subst h
          exact fun p hp => runRs_seen P fb e bs l _ _ h2 p (runR_seen P _ _ _ _ _ _ h1 p hp)
        · cases h
      · cases h
def resAct (tmps : Array Value) : ResultVar → Sem Value
  | .tmp t => pure (tmps.getD t undef)
  | .cell a t => do loadVar t (← asAddr (tmps.getD a undef))
theorem resAct_env {a : Act} (A : Agrees n a e) {r : ResultVar} (hk : resKnown e r = true) : resAct a.tmps r = resOf e r := by
  cases r with
  | tmp t =>
    obtain ⟨v, hv⟩ := Option.isSome_iff_exists.1 hk
    simp [resAct, resOf, hv, A.get t v hv]
  | cell t T =>
    obtain ⟨v, hv⟩ := Option.isSome_iff_exists.1 hk
    simp [resAct, resOf, hv, A.get t v hv]
theorem runRs_sound {a : Act} {fb : Boxes} (A : Agrees n a e) (ho : ∀ p ∈ bs, w.heap[p.1]? = some p.2) (hf : ∀ p ∈ fb, w.heap[p.1]? = some p.2) : ∀ (l : List (ResultVar × Nat)) (se : Seen) r, runRs P fb e bs l se = some r → (∀ p ∈ r.2, p.1 = p.2) → ((l.map (·.1)).mapM (resAct a.tmps)).run P w = .ok r.1 w
  | [], se, r, h, _ => by simp only [runRs, Option.some.injEq] at h; subst h; rfl
  | q :: l, se, r, h, hse => by
    simp only [runRs] at h
    cases hc : resKnown e q.1 with
    | false => rw [hc] at h; cases h
    | true =>
      rw [hc] at h
      simp only [cond_true] at h
      split at h
      · rename_i v se' h1
        split at h
        · rename_i vs se'' h2
          simp only [Option.some.injEq] at h; subst h
          have r1 := runR_sound P _ ho hf _ _ _ h1 (fun p hp => hse p (runRs_seen P fb e bs l _ _ h2 p hp))
          have r2 := runRs_sound A ho hf l _ _ h2 hse
          rw [List.map_cons, List.mapM_cons, resAct_env A hc]
          simp only [Sem.run_bind, r1, Result.andThen_ok, r2, Sem.run_pure]
        · cases h
      · cases h
def valOf : List Value → Value
  | [v] => v
  | l => .tuple l.toArray
def afterR (r : Option (List Value × Seen)) : List Value × Seen := r.getD ([], [])
theorem ret_run {fn : Func} {a : Act} (js : List Nat) (A : Agrees n a e) (H : Own w0 w bs ro) (hj : fn.results.toList = (fn.results.toList.zip js).map (·.1))
    (hr : (runRs P ro.fb e bs (fn.results.toList.zip js) []).map (fun r => r.2.map (·.1)) = some ((afterR (runRs P ro.fb e bs (fn.results.toList.zip js) [])).2.map (·.2))) :
    (results fn a.tmps).run P w = .ok (valOf (afterR (runRs P ro.fb e bs (fn.results.toList.zip js) [])).1) w := by
  cases hx : runRs P ro.fb e bs (fn.results.toList.zip js) [] with
  | none => rw [hx] at hr; cases hr
  | some r =>
    rw [hx] at hr
    have hse := seen_eq (l := r.2) (by simpa [afterR] using hr)
    have := runRs_sound A H.has (fun p hp => (H.hfb p hp).1) _ _ _ hx hse
    rw [← hj] at this
    have e1 : results fn a.tmps = (do let vs ← fn.results.mapM (resAct a.tmps); pure (if h : vs.size = 1 then vs[0] else .tuple vs)) := by
      rfl
    rw [e1, Array.mapM_eq_mapM_toList]
    simp only [Sem.run_bind, Sem.run_map, this, Result.andThen_ok, Sem.run_pure, afterR, Option.getD_some]
    obtain ⟨l, se⟩ := r
    match l with
    | [] => simp [valOf]
    | [v] => simp [valOf]
    | v :: u :: l => simp [valOf]
/-- The end, whatever is told. -/
theorem retW {fn : Func} {R : Ending → World → Prop} (js : List Nat) (v : Value) (A : Agrees n a e) (H : Own w0 w bs ro) (hj : fn.results.toList = (fn.results.toList.zip js).map (·.1))
    (hr : (runRs P ro.fb e bs (fn.results.toList.zip js) []).map (fun r => r.2.map (·.1)) = some ((afterR (runRs P ro.fb e bs (fn.results.toList.zip js) [])).2.map (·.2)))
    (hv : valOf (afterR (runRs P ro.fb e bs (fn.results.toList.zip js) [])).1 = v) (hΦ : R (.returned v) w) :
    bodyPost P fn R .ret a w := by
  subst hv
  exact ⟨A.defers, _, ret_run js A H hj hr, hΦ⟩
/-- **THE END**: what the function hands back. -/
theorem ret {fn : Func} {Φ : Value → World → Prop} (js : List Nat) (v : Value) (A : Agrees n a e) (H : Own w0 w bs ro) (hj : fn.results.toList = (fn.results.toList.zip js).map (·.1))
    (hr : (runRs P ro.fb e bs (fn.results.toList.zip js) []).map (fun r => r.2.map (·.1)) = some ((afterR (runRs P ro.fb e bs (fn.results.toList.zip js) [])).2.map (·.2)))
    (hv : valOf (afterR (runRs P ro.fb e bs (fn.results.toList.zip js) [])).1 = v) (hΦ : Φ v w) :
    bodyPost P fn (fun e w' => ∃ v, e = .returned v ∧ Below w0.heap.size w0 w' ∧ Φ v w') .ret a w := by
  refine ⟨A.defers, _, ret_run js A H hj hr, v, by rw [hv], H.below, hΦ⟩
end
end Go.Proofs.YtfkmcdkncmapmaaGreatDoor.SX
