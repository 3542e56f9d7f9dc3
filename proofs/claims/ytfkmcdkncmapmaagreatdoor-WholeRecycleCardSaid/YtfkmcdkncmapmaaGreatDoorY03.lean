/- Slices of one's own: rows that write. -/
import Derived.Test.YtfkmcdkncmapmaaGreatDoorY02
import Derived.Lib.AppendZerosOnto
import Derived.Lib.Overlaps
set_option linter.unusedVariables false
set_option linter.unusedSimpArgs false
namespace Go.Proofs.YtfkmcdkncmapmaaGreatDoor.SX
open Go Go.RowKit
section
variable {P : Program} {w0 w : World} {bs : Boxes} {ro : Rd}
theorem heap_setRow (w : World) (g : Nat) (cs : Array Value) {k : Nat} (h : k ≠ g) : (w.setRow g cs).heap[k]? = w.heap[k]? := by
 simp [World.setRow, Array.getElem?_modify, Ne.symm h]
theorem Own.setRow (h : Own w0 w bs ro) {j B : Nat} {cs : Array Value} {E : TypeId} (hj : bs[j]? = some (B, .cells cs E (0, 0))) (cs' : Array Value) :
 Own w0 (w.setRow B cs') (setNth bs j (B, .cells cs' E (0, 0))) ro := by
 have hm := List.mem_of_getElem? hj
 have hmap := setNth_map (·.1) bs j (B, Obj.cells cs' E (0, 0)) _ hj rfl
 have hB : w0.heap.size ≤ B := h.fresh _ hm
 refine ⟨⟨h.below.os, h.below.tape, h.below.output, ?_, fun k hk => ?_⟩, fun p hp => ?_, fun p hp => ?_, ?_, fun r hr => ?_, fun p hp => ?_, fun b hb => ⟨by simp only [World.setRow, Array.size_modify]; exact (h.hno b hb).1, by rw [hmap]; exact (h.hno b hb).2⟩⟩
 · have := h.below.size; simpa [World.setRow] using this
 · rw [heap_setRow _ _ _ ko]; exact h.below.block k hk
 · rcases mem_setNth _ _ _ _ hp with rfl | ⟨i, hne, hi⟩
   · exact setRow_heap w B cs cs' E (0, 0) (h.has _ hm)
   · have hb : p.1 ≠ B := nodup_ne (l := bs.map (·.1)) h.nodup (by simp [hi]) (by simp [hj]) hne
     rw [heap_setRow _ _ _ hb]
     exact h.has _ (List.mem_of_getElem? hi)
 · rcases mem_setNth _ _ _ _ hp with rfl | ⟨i, hne, hi⟩
   · exact hB
   · exact h.fresh _ (List.mem_of_getElem? hi)
 · rw [hmap]; exact h.nodup
 · rw [hmap]
   refine r.st _ _ _ _ (fun b o hn hb => ⟨hn, ?_⟩) (h.hro r hr)
   rw [heap_setRow _ _ _ (fun e => hn (List.mem_append_left _ (List.mem_map.2 ⟨_, hm, e.symm⟩)))]; exact hb
 · rw [hmap]
   obtain ⟨hb, hn⟩ := h.hfb p hp
   exact ⟨by rw [heap_setRow _ _ _ (fun e => hn (List.mem_map.2 ⟨_, hm, e.symm⟩))]; exact hb, hn⟩
/-- A list with a row of it overwritten. -/
def over (xs : List Value) (o : Nat) (vs : List Value) : List Value := xs.take o ++ vs ++ xs.drop (o + vs.length)
theorem over_length {xs : List Value} {o : Nat} {vs : List Value} (h : o + vs.length ≤ xs.length) : (over xs o vs).length = xs.length := by
 simp [over]; omega
theorem run_stores {b o : Nat} {T : TypeId} {xs vs : List Value} (hb : w.heap[b]? = some (.cells xs.toArray T (0, 0))) (hl : o + vs.length ≤ xs.length) (h1 : ∀ v ∈ vs, v.oneCell' = true) :
 (storeCells ⟨b, o, none⟩ vs).run P w = .ok () (w.setRow b (over xs o vs).toArray) := by
 have := run_storeCells_at P b o T vs 0 xs.toArray w hb (by simpa using hl) h1
 simpa [over] using this
/-- append, where there is room, onto a slice of one's own. -/
theorem run_appendRoom {t tx ty e : TypeId} {i : TypeInfo} (ht : P.underlying t = some (.slice e)) (hi : P.info? e = some i) {b off sLen sCap : Nat} {x : Value} {n : Nat} {news : List Value} (hs : Src P i.size tx x n news w) (hroom : sLen + n ≤ sCap)
 {T : TypeId} {xs : List Value} (hb : w.heap[b]? = some (.cells xs.toArray T (0, 0))) (hl : off + sLen * i.size + news.length ≤ xs.length) :
 (semB (Builtin.append_ #[t, tx] ty #[.slice (some ⟨b, off, none⟩) sLen sCap, x])).run P w = .ok (.value (.slice (some ⟨b, off, none⟩) (sLen + n) sCap)) (w.setRow b (over xs (off + sLen * i.size) news).toArray) := by
 have hst := run_stores (P := P) hb hl hs.one
 refine run_semB ?_
 rcases hs.kind with ⟨e', hk⟩ | hk <;> simp [Builtin.append_, run_underlying ht, run_underlying hk, sizeOf, typeInfo, hi, hs.len, hroom, hs.cells, add_eq, hst]
theorem zeroCells_size (z : Array Value) (n : Nat) : (Builtin.zeroCells z n).size = n * z.size := by simp [Builtin.zeroCells]
theorem bytes_ge {n by_ : Nat} (h : n * by_ ≤ 140737488355328) (hb : 0 < by_) : n ≤ 140737488355328 := Nat.le_trans (Nat.le_mul_of_pos_right _ hb) h
/-- append, where there is no room: a new row, of one's own. -/
theorem run_appendGrow {t tx ty e : TypeId} {i : TypeInfo} {z : Value} (ht : P.underlying t = some (.slice e)) (hi : P.info? e = some i) (hz : i.zero = some z) (hzs : z.cells.size = i.size) {base : Option Addr} {sLen sCap : Nat} {olds : List Value}
 (hold : (Builtin.firstCells i.size sLen (.slice base sLen sCap)).run P w.drew = .ok olds.toArray w.drew) {x : Value} {n : Nat} {news : List Value} (hs : Src P i.size tx x n news w)
 (hg : sCap < sLen + n) (hbig : (sLen + n) * i.bytes ≤ 140737488355328) (hb : 0 < i.bytes) :
 ∃ nb k zs w', (semB (Builtin.append_ #[t, tx] ty #[.slice base sLen sCap, x])).run P w = .ok (.value (.slice (some ⟨nb, 0, none⟩) (sLen + n) k)) w' ∧
  (∀ w0 bs ro, Own w0 w bs ro → Own w0 w' (bs ++ [(nb, .cells (olds ++ news ++ zs).toArray e (0, 0))]) ro) ∧ sLen + n ≤ k ∧ k ≤ 9223372036854775807 ∧ zs.length = (k - (sLen + n)) * i.size := by
 have hle := bytes_ge hbig hb
 refine ⟨w.heap.size, grownCap w (sLen + n) sCap e, (Builtin.zeroCells z.cells (grownCap w (sLen + n) sCap e - (sLen + n))).toList, _, run_semB (run_append_grow_src w t tx ty e i z ht hi hz base sLen sCap olds hold x n news hs hg ko (growslice_fits hg hbig)), fun w0 bs ro H => ?_, grownCap_ge w _ _ e, grownCap_le_maxLen w _ _ e (by simp only [maxLen]; omega), by rw [Array.length_toList, zeroCells_size, hzs]⟩
 have := H.drew.alloc (.cells ((olds ++ news).toArray ++ Builtin.zeroCells z.cells (grownCap w (sLen + n) sCap e - (sLen + n))) e)
 have he : (olds ++ news).toArray ++ Builtin.zeroCells z.cells (grownCap w (sLen + n) sCap e - (sLen + n)) = (olds ++ news ++ (Builtin.zeroCells z.cells (grownCap w (sLen + n) sCap e - (sLen + n))).toList).toArray := by
  apply Array.ext'; simp
 rw [he] at this ⊢
 exact this
/-- append of noughts, where there is no room. -/
theorem run_appendZeros {t tn ty e : TypeId} {i : TypeInfo} {z : Value} {kn kq : IntKind} (ht : P.underlying t = some (.slice e)) (htn : P.underlying tn = some (.int kn)) (hi : P.info? e = some i) (hz : i.zero = some z) (hzs : z.cells.size = i.size) (hsz : 0 < i.size) {base : Option Addr} {sLen sCap : Nat} {olds : List Value}
 (hold : (Builtin.firstCells i.size sLen (.slice base sLen sCap)).run P w.drew = .ok olds.toArray w.drew) (k : Nat) (h0 : 0 < k)
 (hg : sCap < sLen + k) (hbig : (sLen + k) * i.bytes ≤ 140737488355328) (hb : 0 < i.bytes) :
 ∃ nb c zs w', (semB (Builtin.append_ #[t, tn] ty #[.slice base sLen sCap, .int kq (k : Int)])).run P w = .ok (.value (.slice (some ⟨nb, 0, none⟩) (sLen + k) c)) w' ∧
  (∀ w0 bs ro, Own w0 w bs ro → Own w0 w' (bs ++ [(nb, .cells (olds ++ zs).toArray e (0, 0))]) ro) ∧ sLen + k ≤ c ∧ c ≤ 9223372036854775807 ∧ zs.length = (c - sLen) * i.size := by
 have hle := bytes_ge hbig hb
 have hkb : k * i.bytes ≤ 281474976710656 := Nat.le_trans (Nat.mul_le_mul_right _ (Nat.le_add_left k sLen)) ko
 have hc := grownCap_ge w (sLen + k) sCap e
 refine ⟨w.heap.size, grownCap w (sLen + k) sCap e, (Builtin.zeroCells z.cells k).toList ++ (Builtin.zeroCells z.cells (grownCap w (sLen + k) sCap e - (sLen + k))).toList, _, run_semB (Lib.run_append_grow_zeros w t tn ty e i z kq kn ht htn hi hz base sLen sCap olds hold k h0 hsz hg ko hkb (growslice_fits hg hbig)), fun w0 bs ro H => ?_, hc, grownCap_le_maxLen w _ _ e (by simp only [maxLen]; omega), ?_⟩
 · have := H.drew.alloc (.cells (olds.toArray ++ Builtin.zeroCells z.cells k ++ Builtin.zeroCells z.cells (grownCap w (sLen + k) sCap e - (sLen + k))) e)
   have he : olds.toArray ++ Builtin.zeroCells z.cells k ++ Builtin.zeroCells z.cells (grownCap w (sLen + k) sCap e - (sLen + k)) = (olds ++ ((Builtin.zeroCells z.cells k).toList ++ (Builtin.zeroCells z.cells (grownCap w (sLen + k) sCap e - (sLen + k))).toList)).toArray := by
    apply Array.ext'; simp
   rw [he] at this ⊢
   exact this
 · rw [List.length_append, Array.length_toList, Array.length_toList, zeroCells_size, zeroCells_size, hzs, ← Nat.add_mul]; congr 1; omega
theorem run_appendNone {t tx ty e : TypeId} {i : TypeInfo} (ht : P.underlying t = some (.slice e)) (hi : P.info? e = some i) (base : Option Addr) {sLen sCap : Nat} (hle : sLen ≤ sCap) {x : Value} (hs : Src P i.size tx x 0 [] w) :
 (semB (Builtin.append_ #[t, tx] ty #[.slice base sLen sCap, x])).run P w = .ok (.value (.slice base sLen sCap)) w := run_semB (run_append_nothing w t tx ty e i ht hi base sLen sCap hle x hs)
/-- copy into a slice of one's own. -/
theorem run_copyN {dT sT ty elem : TypeId} {i : TypeInfo} (hu : P.underlying dT = some (.slice elem)) (hi : P.info? elem = some i) {b o dLen dCap : Nat} {x : Value} {sLen : Nat} {news : List Value} (n : Nat) (hx : ∀ w' : World, (Builtin.lenOf x).run P w' = .ok sLen w') (hn : Nat.min sLen dLen = n)
 (hc : (Builtin.firstCells i.size n x).run P w = .ok news.toArray w) (h1 : ∀ v ∈ news, v.oneCell' = true) {T : TypeId} {xs : List Value} (hb : w.heap[b]? = some (.cells xs.toArray T (0, 0))) (hl : o + news.length ≤ xs.length) :
 (semB (Builtin.copy_ #[dT, sT] ty #[.slice (some ⟨b, o, none⟩) dLen dCap, x])).run P w = .ok (.value (goInt n)) (w.setRow b (over xs o news).toArray) := by
 have hst := run_stores (P := P) hb hl h1
 refine run_semB ?_
 simp [Builtin.copy_, run_underlying hu, sizeOf, typeInfo, hi, hx, hn, hc, hst]
theorem run_clearN {t ty elem : TypeId} {i : TypeInfo} {z : Value} (hu : P.underlying t = some (.slice elem)) (hi : P.info? elem = some i) (hz : i.zero = some z) {b o n c : Nat} (hn : n ≠ 0) (h1 : ∀ v ∈ (Builtin.zeroCells z.cells n).toList, v.oneCell' = true)
 {T : TypeId} {xs : List Value} (hb : w.heap[b]? = some (.cells xs.toArray T (0, 0))) (hl : o + (Builtin.zeroCells z.cells n).size ≤ xs.length) :
 (semB (Builtin.clear_ #[t] ty #[.slice (some ⟨b, o, none⟩) n c])).run P w = .ok (.value (.tuple #[])) (w.setRow b (over xs o (Builtin.zeroCells z.cells n).toList).toArray) := by
 have hst := run_stores (P := P) (vs := (Builtin.zeroCells z.cells n).toList) hb (by simpa using hl) h1
 refine run_semB ?_
 cases n with
 | zero => exact absurd rfl hn
 | succ n => simp [Builtin.clear_, run_underlying hu, zeroValue, typeInfo, hi, hz, hst]
/-- The cells of a slice of one's own. -/
theorem run_first {b o n c sz : Nat} {T : TypeId} {fr : Nat × Nat} {xs : List Value} (hb : w.heap[b]? = some (.cells xs.toArray T fr)) (hl : o + n * sz ≤ xs.length) :
 (Builtin.firstCells sz n (.slice (some ⟨b, o, none⟩) n c)).run P w = .ok ((xs.drop o).take (n * sz)).toArray w := by
 refine run_firstCells_some w sz n ⟨b, o, none⟩ n c _ (by simp; omega) fun j u hu => ?_
 rw [add_eq]
 obtain ⟨hj, rfl⟩ := List.getElem?_eq_some_iff.1 hu
 simp only [List.length_take, List.length_drop] at hj
 simp [World.cell?, hb]
theorem run_firstN {b o n l c sz : Nat} {T : TypeId} {fr : Nat × Nat} {xs : List Value} (hb : w.heap[b]? = some (.cells xs.toArray T fr)) (hl : o + n * sz ≤ xs.length) :
 (Builtin.firstCells sz n (.slice (some ⟨b, o, none⟩) l c)).run P w = .ok ((xs.drop o).take (n * sz)).toArray w := run_first (c := c) hb hl
theorem run_sub3 (s : Sl) {T E : TypeId} {sz : Nat} (hu : P.underlying T = some (.slice E)) (hs : (sizeOf E).run P w = .ok sz w) {k k' k'' : IntKind} (l h m : Nat) (h1 : l ≤ h) (h2 : h ≤ m) (h3 : m ≤ s.c) :
 (semSlice T s.v (some (.int k (l : Int))) (some (.int k' (h : Int))) (some (.int k'' (m : Int)))).run P w = .ok (.value (.slice (if m = l then s.a else s.a.map (·.add (l * sz))) (h - l) (m - l))) w := by
 unfold semSlice Instr.sliceAt Instr.slice
 have e0 : (0 : Int) ≤ (m : Int) ∧ (m : Int) ≤ (s.c : Int) := ⟨Int.natCast_nonneg _, Int.ofNat_le.2 h3⟩
 have e1 : (0 : Int) ≤ (h : Int) ∧ (h : Int) ≤ (m : Int) := ⟨Int.natCast_nonneg _, Int.ofNat_le.2 h2⟩
 have e2 : (0 : Int) ≤ (l : Int) ∧ (l : Int) ≤ (h : Int) := ⟨Int.natCast_nonneg _, Int.ofNat_le.2 h1⟩
 simp only [Sem.run_bind, run_und hu, Result.andThen_ok, Instr.sliceBounds, Instr.sliceBound, asIntOf, Sem.run_pure, if_pos e0, if_pos e1, if_pos e2, hs, Int.toNat_natCast]
theorem over_get {xs vs : List Value} {o : Nat} (h : o + vs.length ≤ xs.length) (k : Nat) : (over xs o vs)[k]? = if k < o then xs[k]? else if k < o + vs.length then vs[k - o]? else xs[k]? := by
 unfold over
 by_cases h1 : k < o
 · rw [if_pos h1, List.append_assoc, List.getElem?_append_left (by rw [List.length_take]; omega), List.getElem?_take_of_lt h1]
 · rw [if_neg h1]
   by_cases h2 : k < o + vs.length
   · rw [if_pos h2, List.getElem?_append_left (by rw [List.length_append, List.length_take]; omega), List.getElem?_append_right (by rw [List.length_take]; omega), List.length_take, Nat.min_eq_left ko]
   · rw [if_neg h2, List.getElem?_append_right (by rw [List.length_append, List.length_take]; omega), List.getElem?_drop, List.length_append, List.length_take, Nat.min_eq_left ko]
     congr 1; omega
/-- A slice of a row of one's own. -/
theorem slAt_own {b n c sz : Nat} {T : TypeId} {fr : Nat × Nat} {xs ys : List Value} (hb : w.heap[b]? = some (.cells xs.toArray T fr)) (hl : ys.length = n * sz) (hnc : n ≤ c) (hx : xs.take (n * sz) = ys) : SlAt w [] ⟨some ⟨b, 0, none⟩, n, c⟩ sz ys := by
 refine .inr ⟨b, 0, xs.toArray, T, fr, rfl, hb, List.not_mem_nil, hl, hnc, fun i hi => ?_⟩
 subst hx
 rw [List.length_take] at hi
 simp
theorem sub_head (b n c sz h : Nat) : (⟨some ⟨b, 0, none⟩, n, c⟩ : Sl).sub sz 0 h = ⟨some ⟨b, 0, none⟩, h, c⟩ := by
 simp only [Sl.sub, Nat.zero_mul, Option.map_some, add_eq, Nat.sub_zero, Nat.add_zero, ite_self]
theorem sub_at {b n c sz l h : Nat} (hl : c ≠ l) : (⟨some ⟨b, 0, none⟩, n, c⟩ : Sl).sub sz l h = ⟨some ⟨b, l * sz, none⟩, h - l, c - l⟩ := by
 simp only [Sl.sub, if_neg hl, Option.map_some, add_eq, Nat.zero_add]
theorem Own.sel (h : Own w0 w bs ro) (bs' : Boxes) (hm : ∀ p ∈ bs', p ∈ bs) (hn : (bs'.map (·.1)).Nodup) : Own w0 w bs' ro := by
 have hsub : ∀ b, b ∉ bs.map (·.1) → b ∉ bs'.map (·.1) := fun b hn hmem => by
  obtain ⟨p, hp, hpb⟩ := List.mem_map.1 hmem
  exact hn (List.mem_map.2 ⟨p, hm p hp, hpb⟩)
 exact ⟨h.below, fun p hp => h.has p (hm p hp), fun p hp => h.fresh p (hm p hp), hn,
  fun r hr => r.st _ _ _ _ (fun b o hn ho => ⟨fun hm => (List.mem_append.1 hm).elim (hsub b (fun h => hn (List.mem_append_left _ h))) (fun h => hn (List.mem_append_right _ h)), ho⟩) (h.hro r hr),
  fun p hp => ⟨(h.hfb p hp).1, hsub _ (h.hfb p hp).2⟩, fun b hb => ⟨(h.hno b hb).1, hsub b (h.hno b hb).2⟩⟩
/-- The new row alone, and what stood behind the first two. -/
theorem Own.front {p q r : Nat × Obj} (h : Own w0 w (p :: q :: bs ++ [r]) ro) : Own w0 w (r :: bs) ro := by
 refine h.sel _ (fun x hx => ?_) ?_
 · rcases List.mem_cons.1 hx with rfl | hx
   · simp
   · simp [hx]
 · have := h.nodup
   simp only [List.cons_append, List.map_cons, List.map_append, List.map_nil, List.nodup_cons, List.nodup_append, List.mem_append, List.mem_singleton, List.mem_cons] at this
   simp only [List.map_cons, List.nodup_cons]
   exact ⟨fun hm => this.2.2.2.2 _ hm _ (.inl rfl) rfl, this.2.2.1⟩
theorem Own.skip2 {p q : Nat × Obj} (h : Own w0 w (p :: q :: bs) ro) : Own w0 w (p :: bs) ro := by
 refine h.sel _ (fun x hx => ?_) ?_
 · rcases List.mem_cons.1 hx with rfl | hx
   · simp
   · simp [hx]
 · have := h.nodup
   simp only [List.map_cons, List.nodup_cons, List.mem_cons, not_or] at this ⊢
   exact ⟨this.1.2, this.2.2⟩
theorem Own.ne12 {p q : Nat × Obj} (h : Own w0 w (p :: q :: bs) ro) : p.1 ≠ q.1 := by
 have := h.nodup
 simp only [List.map_cons, List.nodup_cons, List.mem_cons, not_or] at this
 exact this.1.1
/-- What has been written over a row of one's own. -/
def Wrote (w w' : World) (b o : Nat) (E : TypeId) (xs vs x2 : List Value) : Prop :=
 (∀ w0 bs ro, Own w0 w ((b, .cells xs.toArray E (0, 0)) :: bs) ro → Own w0 w' ((b, .cells x2.toArray E (0, 0)) :: bs) ro) ∧ x2.length = xs.length ∧ ∀ k, x2[k]? = if k < o then xs[k]? else if k < o + vs.length then vs[k - o]? else xs[k]?
theorem wrote (b : Nat) {o : Nat} {E : TypeId} {xs vs : List Value} (h : o + vs.length ≤ xs.length) : Wrote w (w.setRow b (over xs o vs).toArray) b o E xs vs (over xs o vs) :=
 ⟨fun w0 bs ro H => H.setRow (j := 0) (B := b) (cs := xs.toArray) (E := E) rfl _, over_length h, over_get h⟩
theorem do_appendRoom {t tx ty e : TypeId} {i : TypeInfo} (ht : P.underlying t = some (.slice e)) (hi : P.info? e = some i) {b sLen sCap : Nat} {x : Value} {n : Nat} {news : List Value} (hs : Src P i.size tx x n news w) (hroom : sLen + n ≤ sCap)
 {T : TypeId} {xs : List Value} (hb : w.heap[b]? = some (.cells xs.toArray T (0, 0))) (hl : sLen * i.size + news.length ≤ xs.length) (o m : Nat) (ho : sLen * i.size = o) (hm : sLen + n = m) :
 ∃ x2 w', (semB (Builtin.append_ #[t, tx] ty #[.slice (some ⟨b, 0, none⟩) sLen sCap, x])).run P w = .ok (.value (.slice (some ⟨b, 0, none⟩) m sCap)) w' ∧ Wrote w w' b o T xs news x2 := by
 subst ho; subst hm
 have := run_appendRoom (P := P) (tx := tx) (ty := ty) ht hi (b := b) (off := 0) hs hroom hb ko
 rw [Nat.zero_add] at this
 exact ⟨_, _, this, wrote b hl⟩
theorem do_copy {dT sT ty elem : TypeId} {i : TypeInfo} (hu : P.underlying dT = some (.slice elem)) (hi : P.info? elem = some i) {b o dLen dCap : Nat} {x : Value} {sLen : Nat} {news : List Value} (n : Nat) (hx : ∀ w' : World, (Builtin.lenOf x).run P w' = .ok sLen w') (hn : Nat.min sLen dLen = n)
 (hc : (Builtin.firstCells i.size n x).run P w = .ok news.toArray w) (h1 : ∀ v ∈ news, v.oneCell' = true) {T : TypeId} {xs : List Value} (hb : w.heap[b]? = some (.cells xs.toArray T (0, 0))) (hl : o + news.length ≤ xs.length) :
 ∃ x2 w', (semB (Builtin.copy_ #[dT, sT] ty #[.slice (some ⟨b, o, none⟩) dLen dCap, x])).run P w = .ok (.value (goInt n)) w' ∧ Wrote w w' b o T xs news x2 :=
 ⟨_, _, run_copyN hu hi n hx hn hc h1 hb hl, wrote b hl⟩
theorem do_clear {t ty elem : TypeId} {i : TypeInfo} {z : Value} (hu : P.underlying t = some (.slice elem)) (hi : P.info? elem = some i) (hz : i.zero = some z) {b o n c : Nat} (hn : n ≠ 0) {zs : List Value} (hzs : (Builtin.zeroCells z.cells n).toList = zs) (h1 : ∀ v ∈ zs, v.oneCell' = true)
 {T : TypeId} {xs : List Value} (hb : w.heap[b]? = some (.cells xs.toArray T (0, 0))) (hl : o + zs.length ≤ xs.length) :
 ∃ x2 w', (semB (Builtin.clear_ #[t] ty #[.slice (some ⟨b, o, none⟩) n c])).run P w = .ok (.value (.tuple #[])) w' ∧ Wrote w w' b o T xs zs x2 := by
 subst hzs
 exact ⟨_, _, run_clearN hu hi hz hn h1 hb (by simpa using hl), wrote b hl⟩
theorem Own.rot {r : Nat × Obj} (h : Own w0 w (bs ++ [r]) ro) : Own w0 w (r :: bs) ro := by
 refine h.sel _ (fun x hx => ?_) ?_
 · rcases List.mem_cons.1 hx with rfl | hx
   · simp
   · simp [hx]
 · have := h.nodup
   simp only [List.map_append, List.map_cons, List.map_nil, List.nodup_append, List.mem_singleton] at this
   simp only [List.map_cons, List.nodup_cons]
   exact ⟨fun hm => this.2.2 _ hm _ rfl rfl, this.1⟩
theorem Own.unrot {r : Nat × Obj} (h : Own w0 w (r :: bs) ro) : Own w0 w (bs ++ [r]) ro := by
 refine h.sel _ (fun x hx => ?_) ?_
 · simp only [List.mem_append, List.mem_singleton] at hx; simp only [List.mem_cons]; exact hx.symm
 · have := h.nodup
   simp only [List.map_cons, List.nodup_cons] at this
   simp only [List.map_append, List.map_cons, List.map_nil, List.nodup_append, List.nodup_cons, List.not_mem_nil, not_false_eq_true, List.nodup_nil, and_self, true_and, List.mem_singleton]
   exact ⟨this.2, fun x hx y hy he => this.1 (by rw [← hy, ← he]; exact hx)⟩
theorem Own.toFront {p : Nat × Obj} (h : Own w0 w bs ro) (j : Nat) (hj : bs[j]? = some p) : Own w0 w (p :: bs.eraseIdx j) ro := by
 refine h.sel _ (fun x hx => ?_) ?_
 · rcases List.mem_cons.1 hx with rfl | hx
   · exact List.mem_of_getElem? hj
   · exact List.mem_of_mem_eraseIdx hx
 · simp only [List.map_cons, List.nodup_cons]
   refine ⟨fun hm => ?_, List.Nodup.sublist (List.Sublist.map _ (List.eraseIdx_sublist bs j)) h.nodup⟩
   obtain ⟨q, hq, hqp⟩ := List.mem_map.1 hm
   obtain ⟨k, hk⟩ := List.mem_iff_getElem?.1 hq
   rw [List.getElem?_eraseIdx] at hk
   have hne := fun i (hi : bs[i]? = some q) (hij : i ≠ j) => nodup_ne (l := bs.map (·.1)) (x := q.1) (y := p.1) h.nodup (i := i) (j := j) (by simp [hi]) (by simp [hj]) hij
   split at hk
   · exact hne k hk ko hqp
   · exact hne (k + 1) hk ko hqp
theorem Own.adoptE {w' : World} {b : Nat} {o : Obj} (h : Own w0 w bs ro) (hw : Below w.heap.size w w') (hb : w'.heap[b]? = some o) (hlo : w.heap.size ≤ b) : Own w0 w' (bs ++ [(b, o)]) ro := (h.adopt hw hb hlo).unrot
def semU (s : Sem Unit) : Sem Next := do
 s
 pure .skip
theorem do_store {T : TypeId} {b o : Nat} {v : Value} {vs : List Value} (hv : v.cells.toList = vs) (hs : (sizeOf T).run P w = .ok vs.length w) {E : TypeId} {xs : List Value} (hb : w.heap[b]? = some (.cells xs.toArray E (0, 0))) (hl : o + vs.length ≤ xs.length) (h1 : ∀ u ∈ vs, u.oneCell' = true) :
 ∃ x2 w', (semU (Instr.storeAt T (.pointer (some ⟨b, o, none⟩)) v)).run P w = .ok .skip w' ∧ Wrote w w' b o E xs vs x2 := by
 have hst := run_stores (P := P) hb hl h1
 refine ⟨_, _, ?_, wrote b hl⟩
 subst hv
 have hsz : v.cells.size = v.cells.toList.length := by simp
 simp only [semU, Instr.storeAt, storeVar, Instr.sureAddr, Sem.run_bind, Sem.run_pure, Result.andThen_ok, hs]
 rw [if_neg (by rw [hsz]; simp)]
 simp only [Sem.run_pure, Result.andThen_ok, Sem.run_bind, hst]
end
end Go.Proofs.YtfkmcdkncmapmaaGreatDoor.SX
