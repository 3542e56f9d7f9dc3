/- Cells of a memory: one put, a row cleared. -/
import Derived.Test.YtfkmcdkncmapmaaGreatDoorY02
import Derived.Test.YtfkmcdkncmapmaaGreatDoorY06
import Derived.Test.YtfkmcdkncmapmaaGreatDoorY14
import Derived.Test.YtfkmcdkncmapmaaGreatDoorProg
set_option linter.unusedVariables false
namespace Go.Proofs.YtfkmcdkncmapmaaGreatDoor.D
open Go
def putF (f : Nat → Nat) (k v : Nat) : Nat → Nat := fun j => if j = k then v else f j
theorem rd_append : ∀ (A B : List Cell) (j : Nat), rd (A ++ B) j = if has A j then rd A j else rd B j
 | [], B, j => by simp [has]
 | c :: A, B, j => by
  show (if c.at_ = j then c.val else rd (A ++ B) j) = if (if c.at_ = j then true else has A j) = true then (if c.at_ = j then c.val else rd A j) else rd B j
  by_cases h : c.at_ = j
  · simp [h]
  · simp only [h, if_false]; exact rd_append A B j
theorem has_append : ∀ (A B : List Cell) (j : Nat), has (A ++ B) j = (has A j || has B j)
 | [], B, j => by simp [has]
 | c :: A, B, j => by
  show (if c.at_ = j then true else has (A ++ B) j) = ((if c.at_ = j then true else has A j) || has B j)
  by_cases h : c.at_ = j
  · simp [h]
  · simp only [h, if_false]; exact has_append A B j
theorem has_not : ∀ (A : List Cell) (j : Nat), (∀ c ∈ A, c.at_ ≠ j) → has A j = false
 | [], _, _ => rfl
 | c :: A, j, h => by unfold has; rw [if_neg (h c List.mem_cons_self)]; exact has_not A j fun d hd => h d (List.mem_cons_of_mem _ hd)
theorem put_ok {A X C M : List Cell} {f : Nat → Nat} {k v : Nat} (h : MemOk (A ++ X ++ C) f) (hA : ∀ c ∈ A, c.at_ < k) (hX : ∀ c ∈ X, c.at_ = k) (hC : ∀ c ∈ C, k < c.at_) (hk : k < 137438953472) (hv : v < 18446744073709551616)
 (hM : (M = [] ∧ v = 0) ∨ M = [⟨k, v⟩]) : MemOk (A ++ M ++ C) (putF f k v) := by
 have hM' : ∀ c ∈ M, c.at_ = k ∧ c.val = v := by
  rcases hM with ⟨rfl, _⟩ | rfl
  · intro c hc; cases hc
  · intro c hc; simp at hc; subst hc; exact ⟨rfl, rfl⟩
 have hs := h.sorted
 rw [List.pairwise_append, List.pairwise_append] at hs
 refine ⟨?_, fun c hc => ?_, fun c hc => ?_, fun j => ?_⟩
 · rw [List.pairwise_append, List.pairwise_append]
   refine ⟨⟨hs.1.1, ?_, fun a ha b hb => by have := hA a ha; have := (hM' b hb).1; omega⟩, hs.2.1, fun a ha b hb => ?_⟩
   · rcases hM with ⟨rfl, _⟩ | rfl <;> simp
   · have hb' := hC b hb
     rcases List.mem_append.1 ha with ha | ha
     · have := hA a ha; omega
     · have := (hM' a ha).1; omega
 · rcases List.mem_append.1 hc with hc | hc
   · rcases List.mem_append.1 hc with hc | hc
     · exact h.small c (by simp [hc])
     · rw [(hM' c hc).1]; exact hk
   · exact h.small c (by simp [hc])
 · rcases List.mem_append.1 hc with hc | hc
   · rcases List.mem_append.1 hc with hc | hc
     · exact h.val c (by simp [hc])
     · rw [(hM' c hc).2]; exact hv
   · exact h.val c (by simp [hc])
 · unfold putF
   by_cases hj : j = k
   · subst hj
     rw [if_pos rfl, rd_append, rd_append, has_append, has_not A j fun c hc => by have := hA c hc; omega]
     have hc0 : rd C j = 0 := rd_none C j fun c hc => by have := hC c hc; omega
     rcases hM with ⟨rfl, rfl⟩ | rfl
     · simp [has, hc0]
     · simp [has, rd]
   · rw [if_neg hj, h.rd, rd_append, rd_append, rd_append, rd_append, has_append, has_append, has_not X j fun c hc => by rw [hX c hc]; exact fun h => hj h.symm, has_not M j fun c hc => by rw [(hM' c hc).1]; exact fun h => hj h.symm]
     cases has A j <;> simp
theorem flat_take {α : Type} (f : α → List Value) (sz : Nat) (hf : ∀ x, (f x).length = sz) : ∀ (l : List α) (i : Nat), (l.flatMap f).take (i * sz) = (l.take i).flatMap f
 | [], i => by simp
 | x :: l, 0 => by simp
 | x :: l, i + 1 => by
  rw [List.flatMap_cons, List.take_succ_cons, List.flatMap_cons, Nat.add_mul, Nat.one_mul, Nat.add_comm, ← hf x, List.take_append, hf x]
  simp only [Nat.add_sub_cancel_left]
  rw [List.take_of_length_le (by rw [hf]; omega), flat_take f sz hf l i]
theorem flat_drop {α : Type} (f : α → List Value) (sz : Nat) (hf : ∀ x, (f x).length = sz) : ∀ (l : List α) (i : Nat), (l.flatMap f).drop (i * sz) = (l.drop i).flatMap f
 | [], i => by simp
 | x :: l, 0 => by simp
 | x :: l, i + 1 => by
  rw [List.flatMap_cons, List.drop_succ_cons, Nat.add_mul, Nat.one_mul, Nat.add_comm, ← hf x, List.drop_append, hf x]
  simp only [Nat.add_sub_cancel_left]
  rw [List.drop_of_length_le (by rw [hf]; omega), List.nil_append, flat_drop f sz hf l i]
/-- Where a place stands in the cells. -/
theorem parts {l : List Cell} {f : Nat → Nat} (h : MemOk l f) (k : Nat) : (∀ c ∈ l.take (low l k), c.at_ < k) ∧ (has l k = false → ∀ c ∈ l.drop (low l k), k < c.at_) ∧ (has l k = true → (∀ c ∈ l.drop (low l k + 1), k < c.at_) ∧ (∀ c ∈ (l.drop (low l k)).take 1, c.at_ = k)) := by
 have hsp := low_spec h.sorted k
 have hhl := has_low h.sorted k
 refine ⟨fun c hc => ?_, fun hh c hc => ?_, fun hh => ⟨fun c hc => ?_, fun c hc => ?_⟩⟩
 · obtain ⟨i, hi⟩ := List.mem_iff_getElem?.1 hc
   rw [List.getElem?_take] at hi
   split at hi
   · exact hsp.1 i c (by assumption) hi
   · cases hi
 · obtain ⟨i, hi⟩ := List.mem_iff_getElem?.1 hc
   rw [List.getElem?_drop] at hi
   have h1 := hsp.2 _ c (Nat.le_add_right _ i) hi
   rcases Nat.lt_or_eq_of_le h1 with h2 | h2
   · exact h2
   · exfalso
     rw [hh] at hhl
     cases i with
     | zero => rw [Nat.add_zero] at hi; rw [hi] at hhl; simp [h2] at hhl
     | succ i =>
      cases hd : l[low l k]? with
      | none =>
       have := List.getElem?_eq_none_iff.1 hd
       obtain ⟨h3, _⟩ := List.getElem?_eq_some_iff.1 hi
       omega
      | some d =>
       have h4 := hsp.2 _ d (Nat.le_refl _) hd
       have := sorted_lt h.sorted hd hi ko
       omega
 · obtain ⟨i, hi⟩ := List.mem_iff_getElem?.1 hc
   rw [List.getElem?_drop] at hi
   obtain ⟨d, hd, hdk, _⟩ := low_get h k hh
   have := sorted_lt h.sorted hd hi ko
   omega
 · obtain ⟨d, hd, hdk, _⟩ := low_get h k hh
   obtain ⟨i, hi⟩ := List.mem_iff_getElem?.1 hc
   rw [List.getElem?_take] at hi
   split at hi
   · rw [List.getElem?_drop, show low l k + i = low l k by omega, hd] at hi; cases hi; exact hdk
   · cases hi
theorem put_del {l : List Cell} {f : Nat → Nat} (h : MemOk l f) {k : Nat} (hh : has l k = true) (hk : k < 137438953472) : MemOk (l.take (low l k) ++ l.drop (low l k + 1)) (putF f k 0) := by
 obtain ⟨h1, _, h3⟩ := parts h k
 have he : l = l.take (low l k) ++ (l.drop (low l k)).take 1 ++ l.drop (low l k + 1) := by
  rw [List.append_assoc, ← List.drop_drop, List.take_append_drop, List.take_append_drop]
 rw [he] at h
 have := put_ok (M := []) h h1 (h3 hh).2 (h3 hh).1 hk (v := 0) kc (.inl ⟨rfl, rfl⟩)
 rw [List.append_nil] at this
 exact this
theorem put_set {l : List Cell} {f : Nat → Nat} (h : MemOk l f) {k v : Nat} (hh : has l k = true) (hk : k < 137438953472) (hv : v < 18446744073709551616) : MemOk (l.take (low l k) ++ [⟨k, v⟩] ++ l.drop (low l k + 1)) (putF f k v) := by
 obtain ⟨h1, _, h3⟩ := parts h k
 have he : l = l.take (low l k) ++ (l.drop (low l k)).take 1 ++ l.drop (low l k + 1) := by
  rw [List.append_assoc, ← List.drop_drop, List.take_append_drop, List.take_append_drop]
 rw [he] at h
 exact put_ok h h1 (h3 hh).2 (h3 hh).1 hk hv (.inr rfl)
theorem put_ins {l : List Cell} {f : Nat → Nat} (h : MemOk l f) {k v : Nat} (hh : has l k = false) (hk : k < 137438953472) (hv : v < 18446744073709551616) : MemOk (l.take (low l k) ++ [⟨k, v⟩] ++ l.drop (low l k)) (putF f k v) := by
 obtain ⟨h1, h2, _⟩ := parts h k
 have he : l = l.take (low l k) ++ [] ++ l.drop (low l k) := by rw [List.append_nil, List.take_append_drop]
 rw [he] at h
 exact put_ok h h1 (fun _ h => nomatch h) (h2 hh) hk hv (.inr rfl)
theorem put_same {l : List Cell} {f : Nat → Nat} (h : MemOk l f) {k : Nat} (hh : has l k = false) : MemOk l (putF f k 0) := by
 refine ⟨h.sorted, h.small, h.val, fun j => ?_⟩
 unfold putF
 by_cases hj : j = k
 · rw [if_pos hj, hj, ← h.rd, has_rd h k hh]
 · rw [if_neg hj]; exact h.rd j
def clrF (f : Nat → Nat) (a b : Nat) : Nat → Nat := fun j => if a ≤ j ∧ j < b then 0 else f j
theorem low_mono {l : List Cell} (hs : l.Pairwise fun a b => a.at_ < b.at_) {a b : Nat} (h : a ≤ b) : low l a ≤ low l b := by
 rcases Nat.lt_or_ge (low l b) (low l a) with hlt | hge
 · exfalso
   have h1 := low_le l a
   obtain ⟨c, hc⟩ := SX.get_of_lt (l := l) (i := low l b) ko
   have h2 := (low_spec hs a).1 _ c hlt hc
   have h3 := (low_spec hs b).2 _ c (Nat.le_refl _) hc
   omega
 · exact hge
theorem clr_ok {l : List Cell} {f : Nat → Nat} (h : MemOk l f) {a b : Nat} (hab : a ≤ b) : MemOk (l.take (low l a) ++ l.drop (low l b)) (clrF f a b) := by
 have hm := low_mono h.sorted hab
 have he : l = l.take (low l a) ++ (l.drop (low l a)).take (low l b - low l a) ++ l.drop (low l b) := by
  rw [List.append_assoc, show l.drop (low l b) = (l.drop (low l a)).drop (low l b - low l a) by rw [List.drop_drop]; congr 1; omega, List.take_append_drop, List.take_append_drop]
 have hA : ∀ c ∈ l.take (low l a), c.at_ < a := fun c hc => by
  obtain ⟨i, hi⟩ := List.mem_iff_getElem?.1 hc
  rw [List.getElem?_take] at hi
  split at hi
  · exact (low_spec h.sorted a).1 i c (by assumption) hi
  · cases hi
 have hX : ∀ c ∈ (l.drop (low l a)).take (low l b - low l a), a ≤ c.at_ ∧ c.at_ < b := fun c hc => by
  obtain ⟨i, hi⟩ := List.mem_iff_getElem?.1 hc
  rw [List.getElem?_take] at hi
  split at hi
  · rw [List.getElem?_drop] at hi
    exact ⟨(low_spec h.sorted a).2 _ c (Nat.le_add_right _ _) hi, (low_spec h.sorted b).1 _ c ko hi⟩
  · cases hi
 have hC : ∀ c ∈ l.drop (low l b), b ≤ c.at_ := fun c hc => by
  obtain ⟨i, hi⟩ := List.mem_iff_getElem?.1 hc
  rw [List.getElem?_drop] at hi
  exact (low_spec h.sorted b).2 _ c (Nat.le_add_right _ _) hi
 generalize l.take (low l a) = A at *
 generalize (l.drop (low l a)).take (low l b - low l a) = X at *
 generalize l.drop (low l b) = C at *
 subst he
 have hs := h.sorted
 rw [List.pairwise_append, List.pairwise_append] at hs
 refine ⟨?_, fun c hc => h.small c (by rcases List.mem_append.1 hc with h | h <;> simp [h]), fun c hc => h.val c (by rcases List.mem_append.1 hc with h | h <;> simp [h]), fun j => ?_⟩
 · rw [List.pairwise_append]
   exact ⟨hs.1.1, hs.2.1, fun x hx y hy => hs.2.2 x (List.mem_append_left _ hx) y hy⟩
 · unfold clrF
   rw [rd_append]
   by_cases hj : a ≤ j ∧ j < b
   · rw [if_pos hj, has_not A j fun c hc => by have := hA c hc; omega, if_neg kc, rd_none C j fun c hc => by have := hC c hc; omega]
   · rw [if_neg hj, h.rd, rd_append, rd_append, has_append, has_not X j fun c hc => by have := hX c hc; omega]
     cases has A j <;> simp
end Go.Proofs.YtfkmcdkncmapmaaGreatDoor.D
set_option linter.unusedVariables false
set_option linter.unusedSimpArgs false
set_option maxRecDepth 100000
set_option maxHeartbeats 1000000
namespace Go.Proofs.YtfkmcdkncmapmaaGreatDoor
open Go Go.RowKit
theorem cells_one (l : List D.Cell) : ∀ u ∈ l.flatMap D.Cell.cells, u.oneCell' = true := by
 intro u hu
 obtain ⟨c, _, hc⟩ := List.mem_flatMap.1 hu
 simp only [D.Cell.cells, List.mem_cons, List.not_mem_nil, or_false] at hc
 rcases hc with rfl | rfl <;> rfl
/-- A row of one's own that holds a memory's cells. -/
theorem mem_give {b n c : Nat} {xs : List Value} {l : List D.Cell} {f : Nat → Nat} {w : World} (hx : xs.take (n * 2) = l.flatMap D.Cell.cells) (hn : n = l.length) (hnc : n ≤ c) (hm : D.MemOk l f) : ∀ no, b ∉ no → w.heap[b]? = some (.cells xs.toArray 200 (0, 0)) → (D.memF ⟨some ⟨b, 0, none⟩, n, c⟩ f).P w no := by
 intro no hb hw
 have hl : (l.flatMap D.Cell.cells).length = n * 2 := by rw [hn]; exact SX.flat_len _ 2 D.Cell.len l
 refine ⟨l, .inr ⟨b, 0, xs.toArray, 200, (0, 0), rfl, hw, hb, hl, hnc, fun i hi => ?_⟩, hm⟩
 have hi2 : i < n * 2 := by omega
 rw [Nat.zero_add, List.getElem?_toArray, ← List.getElem?_take_of_lt hi2, hx, List.getElem?_eq_getElem hi]
theorem set_take {l : List D.Cell} {zs x2 : List Value} {c k v : Nat} {cd : D.Cell} {i : Nat} (hcl : (l.flatMap D.Cell.cells ++ zs).length = c * 2) (hyl : (l.flatMap D.Cell.cells).length = l.length * 2) (hlt : i < l.length) (hcd : l[i]? = some cd) (hk : cd.at_ = k) (hx2 : x2.length = (l.flatMap D.Cell.cells ++ zs).length)
 (hg : ∀ t, x2[t]? = if t < 0 + i * 2 + 1 then (l.flatMap D.Cell.cells ++ zs)[t]? else if t < 0 + i * 2 + 1 + [Value.int .u64 ((v : Nat) : Int)].length then [Value.int .u64 ((v : Nat) : Int)][t - (0 + i * 2 + 1)]? else (l.flatMap D.Cell.cells ++ zs)[t]?) :
 x2.take (l.length * 2) = (l.take i ++ [(⟨k, v⟩ : D.Cell)] ++ l.drop (i + 1)).flatMap D.Cell.cells := by
 apply List.ext_getElem?
 intro t
 have hlen : ((l.take i ++ [(⟨k, v⟩ : D.Cell)] ++ l.drop (i + 1)).flatMap D.Cell.cells).length = l.length * 2 := by
  rw [SX.flat_len _ 2 D.Cell.len, List.length_append, List.length_append, List.length_take, List.length_drop]; simp only [List.length_singleton]; omega
 by_cases ht : t < l.length * 2
 · rw [List.getElem?_take_of_lt ht, hg]
   obtain ⟨j, d, hd, rfl⟩ : ∃ j d, d < 2 ∧ t = j * 2 + d := ⟨t / 2, t % 2, Nat.mod_lt _ kc, by omega⟩
   have hj : j < l.length := by omega
   have hold : (l.flatMap D.Cell.cells ++ zs)[j * 2 + d]? = (D.Cell.cells l[j])[d]? := by
    rw [List.getElem?_append_left (by rw [hyl]; exact ht)]
    exact SX.flat_get _ 2 D.Cell.len l j d l[j] (List.getElem?_eq_getElem hj) hd
   have hnew : ∀ e : D.Cell, (l.take i ++ [(⟨k, v⟩ : D.Cell)] ++ l.drop (i + 1))[j]? = some e → ((l.take i ++ [(⟨k, v⟩ : D.Cell)] ++ l.drop (i + 1)).flatMap D.Cell.cells)[j * 2 + d]? = (D.Cell.cells e)[d]? := fun e he => SX.flat_get _ 2 D.Cell.len _ j d e he hd
   by_cases hji : j = i
   · subst hji
     have he : (l.take j ++ [(⟨k, v⟩ : D.Cell)] ++ l.drop (j + 1))[j]? = some ⟨k, v⟩ := by
      rw [List.getElem?_append_left (by rw [List.length_append, List.length_take]; simp only [List.length_singleton]; omega), List.getElem?_append_right (by rw [List.length_take]; omega), List.length_take, show j - min j l.length = 0 by omega]; rfl
     rw [hnew _ he]
     have hlj : l[j] = cd := by have := List.getElem?_eq_getElem hj; rw [hcd] at this; exact (Option.some.inj this).symm
     rcases (show d = 0 ∨ d = 1 by omega) with rfl | rfl
     · rw [if_pos ko, hold, hlj, ← hk]; rfl
     · rw [if_neg ko, if_pos (by simp only [List.length_singleton]; omega), show j * 2 + 1 - (0 + j * 2 + 1) = 0 by omega]; rfl
   · have he : (l.take i ++ [(⟨k, v⟩ : D.Cell)] ++ l.drop (i + 1))[j]? = some l[j] := by
       by_cases hlt2 : j < i
       · rw [List.append_assoc, List.getElem?_append_left (by rw [List.length_take]; omega), List.getElem?_take_of_lt hlt2, List.getElem?_eq_getElem hj]
       · rw [List.getElem?_append_right (by rw [List.length_append, List.length_take]; simp only [List.length_singleton]; omega), List.getElem?_drop, List.length_append, List.length_take]
         simp only [List.length_singleton]
         rw [show i + 1 + (j - (min i l.length + 1)) = j by omega, List.getElem?_eq_getElem hj]
     rw [hnew _ he]
     by_cases h1 : j * 2 + d < 0 + i * 2 + 1
     · rw [if_pos h1, hold]
     · rw [if_neg h1, if_neg (by simp only [List.length_singleton]; omega), hold]
 · rw [List.getElem?_eq_none (by rw [List.length_take]; omega), List.getElem?_eq_none (by rw [hlen]; omega)]
theorem put_calls (m : D.Mem) (k : Nat) (v : Nat)  {no : List Nat} (s1 : SX.Sl) (w0 : World) (hno : ∀ b ∈ no, b < w0.heap.size) (hs1 : (D.memF s1 m.f).P w0 no) (hk37 : k < 137438953472) (hv : v < 18446744073709551616) : SX.Rets Tryz.prog 150 #[(D.Mem.enc m s1), .int .u64 (((k : Nat) : Int)), .int .u64 (((v : Nat) : Int))] w0 (fun r_ w => ∃ y1 : SX.Sl, r_ = (D.Mem.enc (⟨m.size, D.putF m.f k v⟩ : D.Mem) y1) ∧ (D.memF y1 ((⟨m.size, D.putF m.f k v⟩ : D.Mem).f)).P w no) := by
 refine SX.enterN (args := [(D.Mem.enc m s1), .int .u64 (((k : Nat) : Int)), .int .u64 (((v : Nat) : Int))]) (hno := hno) 50 Tryz.func150 rfl kr fun ac A H => ?_
 have H := H.known (D.memF s1 m.f) hs1
 obtain ⟨l, hl, hms1⟩ := hs1
 have H := H.known (D.cellsF s1 l) hl
 have hlow := D.low_le l k
 have hsh := hms1.short
 refine XS (XR (Xb [0, 0] A H fun ac w A H => XD (XT (XS (XR (Xb [0, 0] A H fun ac w A H => Xc A H (find_calls (⟨m.size, l⟩ : D.MemL) k s1 w H.nos_lt (H.fact' 0 (D.cellsF s1 l) kr) (hms1.sorted) (hms1.short) ko) fun ac w A H => Xb [0, 0, 0, 0, 0] A H fun ac w A H => XD (XT (XS (XR (Xb [0, 0] A H fun ac w A H => ?_))))))))))
 have hlc := (H.fact' 0 (D.cellsF s1 l) kr)
 have hcnt := SX.SlAt.count D.Cell.len kc hlc
 refine SX.callW A (cloneC (l.flatMap D.Cell.cells) s1 w hlc (cells_one l) (by rw [hcnt]; have := hms1.short; omega)) kr kr ?_
 rintro u ac w2 ⟨hB, hF⟩ A
 rw [hcnt] at hF
 rcases hF with ⟨rfl, hn0, hl0⟩ | ⟨b, c, zs, rfl, hblk, hlo, hcl, hyl, hnc, hcm⟩
 ·
  have H := H.later hB
  have hl0 : l = [] := List.eq_nil_of_length_eq_zero hn0
  refine Xb [0] A H fun ac w A H => XD (XT (XS (XB (XS (XR (Xb [0, 0] A H fun ac w A H => ?_))))))
  refine Xs (D.has l k) (fun h1 => ?_) fun h1 => ?_
  ·
   have A := A.rb 21 h1
   refine Xb [0, 0, 0, 0] A H fun ac w A H => XD (XT ?_)
   refine Xs (((v : Nat) : Int) == 0) (fun h2 => ?_) fun h2 => ?_
   ·
    have A := A.rb 19 h2
    have h2p : v = 0 := kp h2
    refine Xt A (XR (Xb [0, 0, 0, 0] A H fun ac w A H => ?_))
    have A := A.re 28 (.int .i64 (IntKind.i64.wrap (((D.low l k : Nat) : Int) + 1))) (.int .i64 ((((D.low l k : Nat) : Int) + 1))) kr (SX.i_in _ ko ko)
    subst hl0
    exact absurd h1 (by simp [D.has])
   ·
    have A := A.rb 19 h2
    have h2p : ¬ (v = 0) := kp h2
    refine Xf A (XS (XR (Xb [0, 0] A H fun ac w A H => XD (XT ?_))))
    have A := A.rb 30 h1
    refine Xt A (XR (Xb [0, 0, 0] A H fun ac w A H => ?_))
    subst hl0
    exact absurd h1 (by simp [D.has])
  ·
   have A := A.rb 21 h1
   refine Xb [0, 0, 0, 0] A H fun ac w A H => XD (XT (Xf A (XS (XR (Xb [0, 0] A H fun ac w A H => XD (XT ?_))))))
   have A := A.rb 30 h1
   refine Xf A (XS (XR (Xb [0, 0, 0] A H fun ac w A H => XD (XT ?_))))
   refine Xs (((v : Nat) : Int) != 0) (fun h5 => ?_) fun h5 => ?_
   ·
    have A := A.rb 37 h5
    have h5p : v ≠ 0 := kp h5
    refine Xt A (XR (Xb [0, 0, 0, 0, 0, 0] A H fun ac w A H => ?_))
    have H := H.pick [2, 0, 1] [(SX.bb H 2, .cells #[.int .u64 ((k : Nat) : Int), .int .u64 ((v : Nat) : Int)] 200 (0, 0)), (SX.bb H 0, .cells (D.Mem.cs m s1) 30 (0, 0)), (SX.bb H 1, .cells #[.int .u64 0, (.slice none 0 0)] 30 (0, 0))] kc kr
    have hlow : D.low l k = 0 := by rw [hl0]; rfl
    have A := A.re 41 (.int .i64 ((D.low l k : Nat) : Int)) (.int .i64 0) kr (by rw [hlow]; rfl)
    refine SX.callW A (insnil_calls _ k v w H) kr kr ?_
    rintro u ac w3 ⟨b', c', x2, rfl, hnc', hx2, ht2, H⟩ A
    have H := H.unrot
    refine Xb [0] A H fun ac w A H => XD (XN (XT (XS (XR (Xb [0, 0, 0] A H fun ac w A H => XD (XT (XS (XR (Xb [0, 1] A H fun ac w A H => XD (XT (XW (Xr [1] (D.Mem.enc ⟨m.size, D.putF m.f k v⟩ ⟨some ⟨b', 0, none⟩, 1, c'⟩) A H ?_))))))))))))
    have H := H.toFront 2 (p := (b', .cells x2.toArray 200 (0, 0))) kr
    have hmo : D.MemOk ([(⟨k, v⟩ : D.Cell)]) (D.putF m.f k v) := by have := D.put_ins hms1 (k := k) (v := v) (by simpa using h1) hk37 hv; subst hl0; exact this
    have H := H.give (D.memF ⟨some ⟨b', 0, none⟩, 1, c'⟩ (D.putF m.f k v)) (mem_give (by rw [show 1 * 2 = 2 from rfl, ht2]; rfl) rfl ko hmo)
    exact ⟨_, rfl, H.out 0 (D.memF ⟨some ⟨b', 0, none⟩, 1, c'⟩ (D.putF m.f k v)) kr⟩
   ·
    have A := A.rb 37 h5
    have h5p : ¬ (v ≠ 0) := kp h5
    refine Xf A (XK (XN (XT (XS (XR (Xb [0, 0, 0] A H fun ac w A H => XD (XT (XS (XR (Xb [0, 1] A H fun ac w A H => XD (XT (XW (Xr [1] (D.Mem.enc ⟨m.size, D.putF m.f k v⟩ SX.Sl.nil) A H ?_)))))))))))))
    refine ⟨SX.Sl.nil, rfl, ?_⟩
    refine ⟨[], .inl ⟨rfl, rfl⟩, ?_⟩
    have hv0 : v = 0 := ko
    subst hv0; subst hl0; exact D.put_same hms1 rfl
 ·
  have H := H.adoptE hB hblk hlo
  refine Xb [0] A H fun ac w A H => XD (XT (XS (XB (XS (XR (Xb [0, 0] A H fun ac w A H => ?_))))))
  refine Xs (D.has l k) (fun h6 => ?_) fun h6 => ?_
  ·
   have A := A.rb 21 h6
   refine Xb [0, 0, 0, 0] A H fun ac w A H => XD (XT ?_)
   refine Xs (((v : Nat) : Int) == 0) (fun h7 => ?_) fun h7 => ?_
   ·
    have A := A.rb 19 h7
    have h7p : v = 0 := kp h7
    refine Xt A (XR (Xb [0, 0, 0, 0] A H fun ac w A H => ?_))
    have A := A.re 28 (.int .i64 (IntKind.i64.wrap (((D.low l k : Nat) : Int) + 1))) (.int .i64 ((((D.low l k : Nat) : Int) + 1))) kr (SX.i_in _ ko ko)
    obtain ⟨cd, hcd1, hcd2, hcd3⟩ := D.low_get hms1 k (by simpa using h6)
    have hlt := (List.getElem?_eq_some_iff.1 hcd1).1
    have H := H.toFront 2 (p := (b, .cells (l.flatMap D.Cell.cells ++ zs).toArray 200 (0, 0))) kr
    refine SX.callW A (delete_calls (D.low l k) l.length c b (l.flatMap D.Cell.cells ++ zs) (l.flatMap D.Cell.cells) w H hlt hcl hyl (List.take_left' hyl) (cells_one l) hnc hms1.short hcm) kr kr ?_
    rintro u ac w3 ⟨x2, rfl, hx2, ht2, H⟩ A
    have H := H.unrot
    refine Xb [0] A H fun ac w A H => XD (XN (XT (XS (XR (Xb [0, 0, 0] A H fun ac w A H => XD (XT (XS (XR (Xb [0, 1] A H fun ac w A H => XD (XT (XW (Xr [1] (D.Mem.enc ⟨m.size, D.putF m.f k v⟩ ⟨some ⟨b, 0, none⟩, l.length - 1, c⟩) A H ?_))))))))))))
    have H := H.toFront 2 (p := (b, .cells x2.toArray 200 (0, 0))) kr
    have hmo : D.MemOk (l.take (D.low l k) ++ l.drop (D.low l k + 1)) (D.putF m.f k v) := by have hv0 : v = 0 := ko; subst hv0; exact D.put_del hms1 (by simpa using h6) hk37
    have H := H.give (D.memF ⟨some ⟨b, 0, none⟩, l.length - 1, c⟩ (D.putF m.f k v)) (mem_give (by rw [ht2, D.flat_take _ 2 D.Cell.len, D.flat_drop _ 2 D.Cell.len, ← List.flatMap_append]) (by rw [List.length_append, List.length_take, List.length_drop]; omega) ko hmo)
    exact ⟨_, rfl, H.out 0 (D.memF ⟨some ⟨b, 0, none⟩, l.length - 1, c⟩ (D.putF m.f k v)) kr⟩
   ·
    have A := A.rb 19 h7
    have h7p : ¬ (v = 0) := kp h7
    refine Xf A (XS (XR (Xb [0, 0] A H fun ac w A H => XD (XT ?_))))
    have A := A.rb 30 h6
    refine Xt A (XR (Xb [0, 0, 0] A H fun ac w A H => ?_))
    obtain ⟨cd, hcd1, hcd2, hcd3⟩ := D.low_get hms1 k (by simpa using h6)
    have hlt := (List.getElem?_eq_some_iff.1 hcd1).1
    refine SX.given A (SX.run_idx_slice (P := Tryz.prog) (w := w) (T := 28) (E := 200) (sz := 2) (k := .i64) (b := b) (off := 0) (len := l.length) (cap := c) (i := D.low l k) Tryz.underlying28 kr hlt) kr kr fun ac A => Xb [0] A H fun ac w A H => ?_
    have hbk := H.has (b, .cells (l.flatMap D.Cell.cells ++ zs).toArray 200 (0, 0)) (List.mem_of_getElem? (i := 2) kr)
    have H := H.toFront 2 (p := (b, .cells (l.flatMap D.Cell.cells ++ zs).toArray 200 (0, 0))) kr
    obtain ⟨x2, w3, hrun, hown, hx2, hg2⟩ := SX.do_store (P := Tryz.prog) (w := w) (T := 27) (b := b) (o := 0 + D.low l k * 2 + 1) (v := .int .u64 ((v : Nat) : Int)) (vs := [.int .u64 ((v : Nat) : Int)]) rfl kr hbk (by rw [hcl]; simp only [List.length_singleton]; omega) (by intro u hu; simp only [List.mem_singleton] at hu; subst hu; rfl)
    have H := (hown _ _ _ H).unrot
    refine SX.givenS A hrun kr kr fun ac A => XD (XN (XT (XS (XR (Xb [0, 0, 0] A H fun ac w A H => XD (XT (XS (XR (Xb [0, 1] A H fun ac w A H => XD (XT (XW (Xr [1] (D.Mem.enc ⟨m.size, D.putF m.f k v⟩ ⟨some ⟨b, 0, none⟩, l.length, c⟩) A H ?_))))))))))))
    have H := H.toFront 2 (p := (b, .cells x2.toArray 200 (0, 0))) kr
    have hmo : D.MemOk (l.take (D.low l k) ++ [(⟨k, v⟩ : D.Cell)] ++ l.drop (D.low l k + 1)) (D.putF m.f k v) := D.put_set hms1 (by simpa using h6) hk37 hv
    have H := H.give (D.memF ⟨some ⟨b, 0, none⟩, l.length, c⟩ (D.putF m.f k v)) (mem_give (set_take hcl hyl hlt hcd1 hcd2 hx2 hg2) (by rw [List.length_append, List.length_append, List.length_take, List.length_drop]; simp only [List.length_singleton]; omega) ko hmo)
    exact ⟨_, rfl, H.out 0 (D.memF ⟨some ⟨b, 0, none⟩, l.length, c⟩ (D.putF m.f k v)) kr⟩
  ·
   have A := A.rb 21 h6
   refine Xb [0, 0, 0, 0] A H fun ac w A H => XD (XT (Xf A (XS (XR (Xb [0, 0] A H fun ac w A H => XD (XT ?_))))))
   have A := A.rb 30 h6
   refine Xf A (XS (XR (Xb [0, 0, 0] A H fun ac w A H => XD (XT ?_))))
   refine Xs (((v : Nat) : Int) != 0) (fun h10 => ?_) fun h10 => ?_
   ·
    have A := A.rb 37 h10
    have h10p : v ≠ 0 := kp h10
    refine Xt A (XR (Xb [0, 0, 0, 0, 0, 0] A H fun ac w A H => ?_))
    have H := H.pick [2, 3, 0, 1] [(b, .cells (l.flatMap D.Cell.cells ++ zs).toArray 200 (0, 0)), (SX.bb H 3, .cells #[.int .u64 ((k : Nat) : Int), .int .u64 ((v : Nat) : Int)] 200 (0, 0)), (SX.bb H 0, .cells (D.Mem.cs m s1) 30 (0, 0)), (SX.bb H 1, .cells #[.int .u64 0, (.slice none 0 0)] 30 (0, 0))] kc kr
    refine SX.callW A (insert_calls (D.low l k) l.length c b _ k v (l.flatMap D.Cell.cells ++ zs) (l.flatMap D.Cell.cells) w H (D.low_le l k) hcl hyl (List.take_left' hyl) (cells_one l) hnc hms1.short hcm) kr kr ?_
    rintro u ac w3 ⟨b', c', x2, rfl, hnc', hx2, ht2, H⟩ A
    have H := H.unrot
    refine Xb [0] A H fun ac w A H => XD (XN (XT (XS (XR (Xb [0, 0, 0] A H fun ac w A H => XD (XT (XS (XR (Xb [0, 1] A H fun ac w A H => XD (XT (XW (Xr [1] (D.Mem.enc ⟨m.size, D.putF m.f k v⟩ ⟨some ⟨b', 0, none⟩, l.length + 1, c'⟩) A H ?_))))))))))))
    have H := H.toFront 2 (p := (b', .cells x2.toArray 200 (0, 0))) kr
    have hmo : D.MemOk (l.take (D.low l k) ++ [(⟨k, v⟩ : D.Cell)] ++ l.drop (D.low l k)) (D.putF m.f k v) := D.put_ins hms1 (by simpa using h6) hk37 hv
    have H := H.give (D.memF ⟨some ⟨b', 0, none⟩, l.length + 1, c'⟩ (D.putF m.f k v)) (mem_give (by rw [ht2, D.flat_take _ 2 D.Cell.len, D.flat_drop _ 2 D.Cell.len, List.flatMap_append, List.flatMap_append]; rfl) (by have := D.low_le l k; rw [List.length_append, List.length_append, List.length_take, List.length_drop]; simp only [List.length_singleton]; omega) ko hmo)
    exact ⟨_, rfl, H.out 0 (D.memF ⟨some ⟨b', 0, none⟩, l.length + 1, c'⟩ (D.putF m.f k v)) kr⟩
   ·
    have A := A.rb 37 h10
    have h10p : ¬ (v ≠ 0) := kp h10
    refine Xf A (XK (XN (XT (XS (XR (Xb [0, 0, 0] A H fun ac w A H => XD (XT (XS (XR (Xb [0, 1] A H fun ac w A H => XD (XT (XW (Xr [1] (D.Mem.enc ⟨m.size, D.putF m.f k v⟩ ⟨some ⟨b, 0, none⟩, l.length, c⟩) A H ?_)))))))))))))
    have H := H.toFront 2 (p := (b, .cells (l.flatMap D.Cell.cells ++ zs).toArray 200 (0, 0))) kr
    have hmo : D.MemOk (l) (D.putF m.f k v) := by have hv0 : v = 0 := ko; subst hv0; exact D.put_same hms1 (by simpa using h6)
    have H := H.give (D.memF ⟨some ⟨b, 0, none⟩, l.length, c⟩ (D.putF m.f k v)) (mem_give (List.take_left' hyl) rfl ko hmo)
    exact ⟨_, rfl, H.out 0 (D.memF ⟨some ⟨b, 0, none⟩, l.length, c⟩ (D.putF m.f k v)) kr⟩
end Go.Proofs.YtfkmcdkncmapmaaGreatDoor
