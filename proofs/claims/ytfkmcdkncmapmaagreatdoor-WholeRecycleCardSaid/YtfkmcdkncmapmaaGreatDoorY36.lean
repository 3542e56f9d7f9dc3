/- What a kernel keeps, as a page is brought in. -/
import Derived.Test.YtfkmcdkncmapmaaGreatDoorY02
import Derived.Test.YtfkmcdkncmapmaaGreatDoorY35
set_option linter.unusedVariables false
set_option linter.unusedSimpArgs false
set_option maxRecDepth 100000
namespace Go.Proofs.YtfkmcdkncmapmaaGreatDoor
open Go Go.RowKit
namespace D
def linkP (d : Nat) : Pte := ⟨true, false, false, false, false, true, false, false, 0, d, 0⟩
theorem linkP_may {d : Nat} (h : d ≤ 524288) : (linkP d).may = true := by
 have h44 : Bits.getN d 0 44 = d := by rw [Bits.getN_mod _ _ _ kc kc]; simp; omega
 have e1 : Bits.getN 0 0 2 = 0 := by decide +kernel
 have e2 : Bits.getN 0 0 10 = 0 := by decide +kernel
 simp only [Pte.may, linkP, fits, h44, e1, e2, decide_true, Bool.and_true]
def Sp (d : Nat) (m : Mem) : Prop := m.f (special d) = (linkP d).put
theorem wordW_in {m : Mem} {t addr l : Nat} (h : wordW m t addr l = 0) : placeN t (indexN addr (l : Int)) < m.size := by
 unfold wordW at h
 rw [wrong8] at h
 split at h
 · cases h
 · omega
theorem wordP_at {m : Mem} {d t addr l : Nat} (hm : MInv d m) (h : wordW m t addr l = 0) : wordP m t addr l = Pte.get (m.f (t * 512 + indexN addr (l : Int))) := by
 unfold wordP
 rw [load8 (indexN_lt _ _) (wordW_in h) (hm.lt _)]
/-- What a look that finds something has found. -/
structure Fnd (d : Nat) (m : Mem) (f : Found) : Prop where
 ex : ∃ t i, f.leaf.at_ = placeN t i ∧ i < 512 ∧ t ≠ d ∧ t * 512 + i ≠ special d ∧ placeN t i < m.size ∧ (Pte.get (m.f (t * 512 + i))).link = false
 g : f.leaf.pte.g = false
theorem leaf_link {p : Pte} (h : p.leaf = true) : p.link = false := by
 obtain ⟨v, r, w, x, u, g, a, dd, rsw, ppn, high⟩ := p
 cases v <;> cases r <;> cases x <;> simp_all [Pte.link, Pte.leaf]
theorem down_link {p : Pte} {l : Int} (h : p.bad l = false) (h2 : p.leaf = false) : p.link = true := by
 obtain ⟨v, r, w, x, u, g, a, dd, rsw, ppn, high⟩ := p
 cases v <;> cases r <;> cases x <;> simp_all [Pte.link, Pte.leaf, Pte.bad]
theorem look_found {m : Mem} {d addr : Nat} {kind : Int} (hm : MInv d m) : ∀ l t, At d addr l t → (look m addr kind l t false).fault.is_ = false → Fnd d m (look m addr kind l t false) := by
 have step : ∀ (l t : Nat), At d addr l t → wordW m t addr l = 0 → (wordP m t addr l).leaf = true → Fnd d m ⟨⟨(l : Int), placeN t (indexN addr (l : Int)), (wordP m t addr l).withG (false || (wordP m t addr l).g)⟩, Fault.zero⟩ := fun l t ha hw hl => by
  have e := wordP_at (addr := addr) (l := l) (t := t) hm hw
  refine ⟨⟨t, indexN addr (l : Int), rfl, indexN_lt _ _, ha.1, ha.2, wordW_in hw, ?_⟩, ?_⟩
  · rw [← e]; exact leaf_link hl
  · show (false || (wordP m t addr l).g) = false
    rw [e, (hm.w _ ha.2).1]; rfl
 intro l
 induction l with
 | zero =>
  intro t ha hf
  by_cases hw : wordW m t addr 0 = 0
  · cases hb : (wordP m t addr 0).bad ((0 : Nat) : Int) with
    | true => rw [look_bad hw hb] at hf; cases hf
    | false => rw [look_leaf hw hb (bad_leaf hb)]; exact step 0 t ha hw (bad_leaf hb)
  · rw [look_range hw] at hf; cases hf
 | succ l ih =>
  intro t ha hf
  by_cases hw : wordW m t addr (l + 1) = 0
  · cases hb : (wordP m t addr (l + 1)).bad ((l + 1 : Nat) : Int) with
    | true => rw [look_bad hw hb] at hf; cases hf
    | false =>
     cases hl : (wordP m t addr (l + 1)).leaf with
     | true => rw [look_leaf hw hb hl]; exact step (l + 1) t ha hw hl
     | false =>
      have e := wordP_at (addr := addr) (l := l + 1) (t := t) hm hw
      have h2 := (look_down (kind := kind) (g := false) hw hb hl).2
      have hg : (wordP m t addr (l + 1)).g = false := by rw [e, (hm.w _ ha.2).1]
      rw [hg] at h2
      rw [h2] at hf ⊢
      have hk := down_link hb hl
      have hn := (hm.w _ ha.2).2 (e ▸ hk)
      rw [← e] at hn
      exact ih _ (at_next hn.1 hn.2) hf
  · rw [look_range hw] at hf; cases hf
/-- Whatever is asked of the frame that all spaces share: nothing is there. -/
theorem look_shared {m : Mem} {d addr : Nat} {kind : Int} {g : Bool} (hm : MInv d m) (l : Nat) : (look m addr kind l d g).fault.is_ = true := by
 by_cases hw : wordW m d addr l = 0
 · have e := wordP_at (addr := addr) (l := l) (t := d) hm hw
   rw [hm.z _ (indexN_lt _ _), get_zero] at e
   rw [look_bad hw (by rw [e]; rfl)]; rfl
 · rw [look_range hw]; rfl
theorem linkP_get {d : Nat} (hd : d ≤ 524288) : GotPut (linkP d) (Pte.get (linkP d).put) ∧ (Pte.get (linkP d).put).ppn = d ∧ (Pte.get (linkP d).put).high = 0 := ⟨got_put _, got_ppn _ (by show d < _; omega), got_high _ rfl⟩
theorem linkP_walk {d : Nat} (hd : d ≤ 524288) {l : Int} (hl : l ≠ 0) : (Pte.get (linkP d).put).bad l = false ∧ (Pte.get (linkP d).put).leaf = false ∧ (Pte.get (linkP d).put).ppn = d := by
 obtain ⟨h, h2, h3⟩ := linkP_get hd
 have hv : (Pte.get (linkP d).put).v = true := h.v
 have hr : (Pte.get (linkP d).put).r = false := h.r
 have hw : (Pte.get (linkP d).put).w = false := h.w
 have hx : (Pte.get (linkP d).put).x = false := h.x
 have hu : (Pte.get (linkP d).put).u = false := h.u
 have ha : (Pte.get (linkP d).put).a = false := h.a
 have hdd : (Pte.get (linkP d).put).d = false := h.d
 refine ⟨?_, ?_, h2⟩
 · unfold Pte.bad Pte.link
   rw [hv, hr, hw, hx, hu, ha, hdd, h3]
   simp [hl]
 · unfold Pte.leaf; rw [hv, hr, hx]; rfl
theorem look_top {m : Mem} {d addr : Nat} {kind : Int} (hd : d ≤ 524288) (hm : MInv d m) (hs : Sp d m) (h5 : indexN addr 2 = 511) : (look m addr kind 2 (d + 1) false).fault.is_ = true := by
 by_cases hw : wordW m (d + 1) addr 2 = 0
 · have e := wordP_at (addr := addr) (l := 2) (t := d + 1) hm hw
   have e2 : (d + 1) * 512 + indexN addr ((2 : Nat) : Int) = special d := by rw [show indexN addr ((2 : Nat) : Int) = 511 from h5]; rfl
   rw [e2, show m.f (special d) = (linkP d).put from hs] at e
   have hk := linkP_walk hd (l := ((2 : Nat) : Int)) kc
   have h2 := (look_down (kind := kind) (g := false) hw (by rw [e]; exact hk.1) (by rw [e]; exact hk.2.1)).2
   rw [h2, e, hk.2.2]
   exact look_shared hm _
 · rw [look_range hw]; rfl
theorem MInv.mark {d : Nat} {m : Mem} (h : MInv d m) {f : Found} (hf : Fnd d m f) (b : Bool) : MInv d (markM m f.leaf b) ∧ (Sp d m → Sp d (markM m f.leaf b)) := by
 obtain ⟨⟨t, i, ha, hi, ht, hs, hin, hl⟩, hg⟩ := hf
 have ew : wordN m (placeN t i) = m.f (t * 512 + i) := by rw [wordN, if_pos hin, place_div t hi]
 unfold markM
 rw [ha]
 have hlk : (markP m f.leaf b).link = false := by
  show (Pte.get (wordN m f.leaf.at_)).link = false
  rw [ha, ew]; exact hl
 have hgg : (markP m f.leaf b).g = false := by
  show (Pte.get (wordN m f.leaf.at_)).g = false
  rw [ha, ew]; exact (h.w _ hs).1
 refine ⟨h.store hi ht (put0_lt _) (fun _ => wd_put hgg fun hh => by rw [hlk] at hh; cases hh), fun hsp => ?_⟩
 show (storeM m (placeN t i) 8 _).f (special d) = _
 rw [store8 hi (h.lt _) (put0_lt _), if_neg (fun hh => hs hh.2.symm)]
 exact hsp
theorem bring_keeps {h : Hart} {m : Mem} {d addr : Nat} {kind : Int} (hd : d ≤ 524288) (hm : MInv d m) (hs : Sp d m) (ht : h.tlb.Of1) (hp : h.satp = ⟨8, 1, d + 1⟩) :
 (bringN h m addr kind).hart.tlb.Of1 ∧ (bringN h m addr kind).hart.satp = ⟨8, 1, d + 1⟩ ∧ MInv d (bringN h m addr kind).mem ∧ Sp d (bringN h m addr kind).mem ∧ (bringN h m addr kind).mem.size = m.size := by
 unfold bringN
 rw [if_neg (show ¬ h.satp.mode ≠ 8 by rw [hp]; simp)]
 have hr : h.satp.ppn = d + 1 := by rw [hp]
 rw [hr]
 cases hf : (lookN m (d + 1) addr kind).fault.is_ with
 | true => rw [if_pos rfl]; exact ⟨ht, hp, hm, hs, rfl⟩
 | false =>
  rw [if_neg kc]
  have hF : Fnd d m (lookN m (d + 1) addr kind) := by
   unfold lookN at hf ⊢
   split at hf
   · rename_i hn
     rw [if_pos hn]
     by_cases h5 : indexN addr 2 = 511
     · rw [look_top hd hm hs h5] at hf; cases hf
     · refine look_found hm 2 (d + 1) ⟨by omega, ?_⟩ hf
       have := indexN_lt addr 2
       show (d + 1) * 512 + indexN addr 2 ≠ _
       unfold special; omega
   · cases hf
  have hk := hm.mark hF false
  refine ⟨ht.put (fun _ => ⟨?_, ?_, ?_, ?_⟩) _, hp, hk.1, hk.2 hs, markM_size _ _ _⟩
  · exact lookN_lv m (d + 1) addr kind
  · exact lookN_ppn m (d + 1) addr kind
  · show h.satp.asid = 1
    rw [hp]
  · exact hF.g
end D
end Go.Proofs.YtfkmcdkncmapmaaGreatDoor
set_option linter.unusedVariables false
set_option linter.unusedSimpArgs false
set_option maxRecDepth 100000
namespace Go.Proofs.YtfkmcdkncmapmaaGreatDoor
open Go Go.RowKit
namespace D
theorem ctz_bit (n : Nat) (h : n < 18446744073709551616) (h0 : n ≠ 0) : n.testBit (ctz n) = true := by
 rcases ctz_cases n with ⟨h1, _⟩ | ⟨_, h2, _⟩
 · have := ctz_pos n h h0; omega
 · exact h2
structure PInv (d : Nat) (n : Int) (p : Pool) : Prop where
 base : p.base = d
 many : p.many = n
 lt : p.free < 18446744073709551616
 b0 : p.free.testBit 0 = false
 b1 : p.free.testBit 1 = false
theorem PInv.next {d : Nat} {n : Int} {p : Pool} (h : PInv d n p) (hf : p.free ≠ 0) : d + 2 ≤ p.next := by
 have hb := ctz_bit p.free h.lt hf
 unfold Pool.next
 rw [h.base]
 have : ctz p.free ≠ 0 := fun e => by rw [e, h.b0] at hb; cases hb
 have : ctz p.free ≠ 1 := fun e => by rw [e, h.b1] at hb; cases hb
 omega
theorem PInv.take {d : Nat} {n : Int} {p : Pool} (h : PInv d n p) : PInv d n p.take := by
 unfold Pool.take
 split
 · exact h
 · refine ⟨h.base, h.many, Bits.setN_lt _ _ _ _, ?_, ?_⟩
   · show (Bits.setN p.free _ 1 0).testBit 0 = false
     rw [Bits.testBit_setN _ _ _ _ _ h.lt]
     split
     · simp
     · exact h.b0
   · show (Bits.setN p.free _ 1 0).testBit 1 = false
     rw [Bits.testBit_setN _ _ _ _ _ h.lt]
     split
     · simp
     · exact h.b1
/-- What a kernel's memory keeps beside the words. -/
structure MSp (d : Nat) (sz : Nat) (m : Mem) : Prop where
 inv : MInv d m
 sp : Sp d m
 size : m.size = sz
theorem MSp.with_ {d sz : Nat} {m : Mem} (h : MSp d sz m) {s : Spot} {addr : Nat} {p : Pte} (ht : s.table ≠ d) (hs : s.table * 512 + indexN addr s.level ≠ special d) (hg : p.g = false) (hl : p.link = true → p.ppn ≠ d ∧ p.ppn ≠ d + 1) : MSp d sz (withM m s addr p) := by
 refine ⟨h.inv.store (indexN_lt _ _) ht (put0_lt _) (fun _ => wd_put hg hl), ?_, (withM_size _ _ _ _).trans h.size⟩
 show (storeM m _ 8 _).f (special d) = _
 rw [store8 (indexN_lt _ _) (h.inv.lt _) (put0_lt _), if_neg (fun hh => hs hh.2.symm)]
 exact h.sp
theorem MSp.fresh {d sz : Nat} {n : Int} {m : Mem} {p : Pool} (h : MSp d sz m) (hp : PInv d n p) : MSp d sz (freshM m p) := by
 unfold freshM
 split
 · exact h
 · rename_i hf
   have hn := hp.next hf
   refine ⟨h.inv.clr _, ?_, h.size⟩
   show (clrM m p.next).f (special d) = _
   rw [clr_f, if_neg (by unfold special; omega)]
   exact h.sp
theorem down_keeps {d sz : Nat} {n : Int} {m : Mem} {p : Pool} {top level addr want : Nat} (ha : At d addr level top) : ∀ (q : Nat) (nx : Mem) (lf : Pool), MSp d sz nx → PInv d n lf → (downL m p top level addr want q nx lf).err = 0 →
 MSp d sz (downL m p top level addr want q nx lf).mem ∧ PInv d n (downL m p top level addr want q nx lf).pool ∧ (downL m p top level addr want q nx lf).spot.table ≠ d ∧ (downL m p top level addr want q nx lf).spot.table * 512 + indexN addr (downL m p top level addr want q nx lf).spot.level ≠ special d
 | 0, nx, lf, _, _, he => by cases he
 | q + 1, nx, lf, hm, hp, he => by
  have hr := reach_at (addr := addr) (want := want) hm.inv level top ha
  rw [downL] at he ⊢
  split at he
  · rename_i h1
    rw [if_pos h1]
    exact ⟨hm, hp, hr⟩
  · rename_i h1
    rw [if_neg h1]
    split at he
    · cases he
    · rename_i h2
      rw [if_neg h2]
      split at he
      · cases he
      · rename_i h3
        rw [if_neg h3]
        rw [show (if lf.free = 0 then 0 else lf.next) = lf.next from if_neg h3]
        refine down_keeps ha q _ _ ((hm.fresh hp).with_ hr.1 hr.2 rfl fun _ => ?_) hp.take he
        have hn := hp.next h3
        show lf.next ≠ d ∧ lf.next ≠ d + 1
        omega
/-- What a kernel keeps, from the space's making to its end. -/
structure RInv (c : Conf) (k : Kernel) : Prop where
 conf : k.conf = c
 mem : MSp c.data.toNat ((c.data + c.pool).toNat * 4096) k.mem
 tlb : k.hart.tlb.Of1
 satp : k.hart.satp = ⟨8, 1, c.data.toNat + 1⟩
 pool : PInv c.data.toNat ((c.pool.toNat : Nat) : Int) k.pool
 asids : k.asids = ⟨1, 0, 1⟩
 spaces : k.spaces = [⟨c.data.toNat + 1, 1, true⟩]
 now : k.now = 0
 shared : k.shared = c.data.toNat
 fences : k.fences = []
theorem RInv.bring {c : Conf} {k : Kernel} (h : RInv c k) (hc : c.data.toNat ≤ 524288) (o : Op) : RInv c (bringK k o) := by
 have hb := bring_keeps (addr := o.va) (kind := (if kindB o.acc then o.acc else 1)) hc h.mem.inv h.mem.sp h.tlb h.satp
 exact ⟨h.conf, ⟨hb.2.2.1, hb.2.2.2.1, hb.2.2.2.2.trans h.mem.size⟩, hb.1, hb.2.1, h.pool, h.asids, h.spaces, h.now, h.shared, h.fences⟩
theorem RInv.map {c : Conf} {k : Kernel} (h : RInv c k) (addr pa level : Nat) {p : Perm} (hr : p.r = true) : RInv c (mapN k 0 addr pa level p).k := by
 have hsp : (k.sp 0).root = c.data.toNat + 1 := by unfold Kernel.sp; rw [h.spaces]; rfl
 unfold mapN
 split
 · exact h
 · rename_i hw
   have hw : (whereN k 0 addr (level : Int)).err = 0 := by simpa using hw
   have hwh : whereN k 0 addr (level : Int) = ⟨c.data.toNat + 1, 2, 0⟩ ∧ indexN addr 2 ≠ 511 := by
    unfold whereN whereB at hw ⊢
    rw [hsp]
    cases hB : (((indexN addr 2 : Nat) : Int) == 511) with
    | true =>
     rw [hB] at hw
     split at hw
     · cases hw
     · split at hw
       · cases hw
       · split at hw
         · cases hw
         · have e9 : ∀ b : Bool, (((0 : Int) == -1) != true || ((0 : Int) == -1) && b) = true := fun b => rfl
           rw [if_pos (e9 _)] at hw
           cases hw
    | false =>
     rw [hB] at hw
     refine ⟨?_, fun e => by rw [e] at hB; cases hB⟩
     split at hw
     · cases hw
     · rename_i e1
       rw [if_neg e1]
       split at hw
       · cases hw
       · rename_i e2
         rw [if_neg e2]
         split at hw
         · cases hw
         · rename_i e3
           rw [if_neg e3]
           rfl
   split
   · exact h
   · split
     · exact h
     · split
       · exact h
       · split
         · exact h
         · split
           · exact h
           · rename_i hd
             have hd : (k.down 0 addr level).err = 0 := by simpa using hd
             have hA : At c.data.toNat addr 2 (c.data.toNat + 1) := ⟨by omega, by
              have := indexN_lt addr 2
              have := hwh.2
              show (c.data.toNat + 1) * 512 + indexN addr 2 ≠ _
              unfold special; omega⟩
             have e : k.down 0 addr level = downN k.mem k.pool (c.data.toNat + 1) 2 addr level := by unfold Kernel.down; rw [hwh.1]
             rw [e] at hd ⊢
             have hk := down_keeps (m := k.mem) (p := k.pool) hA _ _ _ h.mem h.pool hd
             refine ⟨h.conf, hk.1.with_ hk.2.2.1 hk.2.2.2 rfl (fun hl => ?_), h.tlb, h.satp, hk.2.1, h.asids, h.spaces, h.now, h.shared, h.fences⟩
             exfalso
             simp [Pte.link, Pte.make, hr] at hl
end D
end Go.Proofs.YtfkmcdkncmapmaaGreatDoor
set_option linter.unusedVariables false
set_option linter.unusedSimpArgs false
set_option maxRecDepth 100000
namespace Go.Proofs.YtfkmcdkncmapmaaGreatDoor
open Go Go.RowKit
namespace D
structure FMem (d : Nat) (m : Mem) : Prop where
 r : ∀ i, i < 511 → m.f ((d + 1) * 512 + i) = 0
 sp : Sp d m
 z : ∀ i, i < 512 → m.f (d * 512 + i) = 0
 size : (d + 2) * 4096 ≤ m.size
theorem in_range {m : Mem} {t addr l : Nat} (h : placeN t (indexN addr (l : Int)) < m.size) : wordW m t addr l = 0 := by
 unfold wordW
 rw [wrong8, if_neg ko]
theorem word_at {m : Mem} {t addr l v : Nat} (h : placeN t (indexN addr (l : Int)) < m.size) (hv : m.f (t * 512 + indexN addr (l : Int)) = v) (hl : v < 18446744073709551616) : wordP m t addr l = Pte.get v := by
 unfold wordP
 rw [load8 (indexN_lt _ _) h (by rw [hv]; exact hl), hv]
theorem look_new {m : Mem} {d addr : Nat} {kind : Int} (hd : d ≤ 524288) (h : FMem d m) : look m addr kind 2 (d + 1) false = Found.no 2 kind addr := by
 have hi := indexN_lt addr ((2 : Nat) : Int)
 have hsz := h.size
 have hin : placeN (d + 1) (indexN addr ((2 : Nat) : Int)) < m.size := by unfold placeN; omega
 have hw := in_range hin
 by_cases h5 : indexN addr ((2 : Nat) : Int) = 511
 · have e2 : m.f ((d + 1) * 512 + indexN addr ((2 : Nat) : Int)) = (linkP d).put := by rw [h5]; exact h.sp
   have e := word_at hin e2 (put_lt _)
   have hk := linkP_walk hd (l := ((2 : Nat) : Int)) kc
   have h2 := (look_down (kind := kind) (g := false) hw (by rw [e]; exact hk.1) (by rw [e]; exact hk.2.1)).2
   rw [h2, e, hk.2.2]
   have hi1 := indexN_lt addr ((1 : Nat) : Int)
   have hin1 : placeN d (indexN addr ((1 : Nat) : Int)) < m.size := by unfold placeN; omega
   have e1 := word_at hin1 (h.z _ hi1) kc
   exact look_bad (in_range hin1) (by rw [e1, get_zero]; rfl)
 · have e := word_at hin (h.r _ ko) kc
   exact look_bad hw (by rw [e, get_zero]; rfl)
/-- No entry is valid. -/
structure Set.NoV (s : Set) : Prop where
 l0 : s.w0.valid = false
 l1 : s.w1.valid = false
 l2 : s.w2.valid = false
 l3 : s.w3.valid = false
def Tlb.NoV (t : Tlb) : Prop := ∀ s ∈ t.sets, s.NoV
theorem Set.NoV.find {s : Set} (h : s.NoV) (asid x : Nat) (l : Int) : s.find asid x l = -1 := by
 have e : ∀ e : Entry, e.valid = false → (decide (e.level = l) && e.hits asid x) = false := fun e he => by simp [Entry.hits, Entry.covers, he]
 unfold Set.find Set.first
 simp only [e _ h.l0, e _ h.l1, e _ h.l2, e _ h.l3]
 rfl
theorem Tlb.NoV.way {t : Tlb} (h : t.NoV) (asid x : Nat) (l : Int) : t.way asid x l = -1 := by
 unfold Tlb.way Tlb.at_
 cases hx : t.sets[t.idx x l]? with
 | none => exact (show Set.NoV Set.zero from ⟨rfl, rfl, rfl, rfl⟩).find asid x l
 | some s => exact (h s (List.mem_of_getElem? hx)).find asid x l
theorem Tlb.NoV.misses {t : Tlb} (h : t.NoV) (asid x : Nat) : (t.find asid x).ok = false := by
 unfold Tlb.find
 rw [h.way, h.way, h.way]
 split
 · rfl
 · rfl
theorem cause_page {k : Int} : 12 ≤ causeN 2 k := by
 unfold causeN
 rw [if_neg kc, if_neg kc]
 split
 · decide
 · split <;> decide
theorem leads_new {h : Hart} {m : Mem} {d addr : Nat} {kind : Int} (hd : d ≤ 524288) (hm : FMem d m) (ht : h.tlb.NoV) (hs : h.satp = ⟨8, 1, d + 1⟩) :
 (Acc.leads ⟨h, m, kind, addr⟩).fault = ⟨true, causeN 2 kind, addr⟩ := by
 have hw : (Acc.walk ⟨h, m, kind, addr⟩).fault = ⟨true, causeN 2 kind, addr⟩ := by
  have hl : lookN m h.satp.ppn addr kind = Found.no 2 kind addr := by
   unfold lookN
   split
   · rw [hs]; exact look_new hd hm
   · rfl
  show (walkN m h.satp.ppn addr ⟨kind, h.priv, h.sum, h.mxr⟩).fault = _
  unfold walkN
  rw [hl, if_pos (show (Found.no 2 kind addr).fault.is_ = true from rfl)]
  rfl
 unfold Acc.leads
 rw [if_neg (show ¬ h.satp.mode ≠ 8 by rw [hs]; simp)]
 split
 · rfl
 · rw [if_neg (show ¬ ((Acc.hit ⟨h, m, kind, addr⟩).ok = true ∧ _) by
     show ¬ ((h.tlb.find h.satp.asid addr).ok = true ∧ _)
     rw [ht.misses]
     simp), if_pos (show (Acc.walk ⟨h, m, kind, addr⟩).fault.is_ = true by rw [hw])]
   exact hw
theorem access_new {k : Kernel} {d : Nat} {o : Op} (hd : d ≤ 524288) (hm : FMem d k.mem) (ht : k.hart.tlb.NoV) (hs : k.hart.satp = ⟨8, 1, d + 1⟩) (hn : k.now ≠ -1) (hk : kindB o.acc = true) (h8 : o.size = 8) (hva : o.va % 8 = 0) :
 (accessK k o).a.err = 0 ∧ (accessK k o).a.result.fault.is_ = true ∧ 12 ≤ (accessK k o).a.result.fault.cause := by
 have hl := leads_new (kind := o.acc) (addr := o.va) hd hm ht hs
 have ha : (accN k.hart k.mem o.acc o.va o.size o.val).result = ⟨0, ⟨true, causeN 2 o.acc, o.va⟩⟩ := by
  unfold accN
  rw [h8, if_neg (show ¬ even o.va (Int.toNat 8) = false by
   show ¬ even o.va 8 = false
   unfold even
   simp; omega), if_pos (by rw [hl]), hl]
 unfold accessK
 rw [if_neg (by rw [hk]; decide), if_neg (by rw [h8]; decide), if_neg hn]
 exact ⟨rfl, by rw [ha], by rw [ha]; exact cause_page⟩
end D
end Go.Proofs.YtfkmcdkncmapmaaGreatDoor
set_option linter.unusedVariables false
set_option linter.unusedSimpArgs false
set_option maxRecDepth 100000
namespace Go.Proofs.YtfkmcdkncmapmaaGreatDoor
open Go Go.RowKit
namespace D
/-- The pool once the root's frame is back. -/
structure PBack (d : Nat) (n : Int) (p : Pool) : Prop where
 base : p.base = d
 many : p.many = n
 lt : p.free < 18446744073709551616
 b0 : p.free.testBit 0 = false
 b1 : p.free.testBit 1 = true
theorem PBack.give {d : Nat} {n : Int} {p : Pool} (h : PBack d n p) {f : Nat} (hf : f ≠ d) : PBack d n (p.give f) := by
 unfold Pool.give
 split
 · rename_i hh
   simp only [Pool.holds, Pool.isin, Bool.and_eq_true, decide_eq_true_eq, h.base] at hh
   refine ⟨h.base, h.many, Bits.setN_lt _ _ _ _, ?_, ?_⟩
   · show (Bits.setN p.free (f - p.base) 1 1).testBit 0 = false
     rw [Bits.testBit_setN _ _ _ _ _ h.lt, if_neg (by rw [h.base]; omega)]
     exact h.b0
   · show (Bits.setN p.free (f - p.base) 1 1).testBit 1 = true
     rw [Bits.testBit_setN _ _ _ _ _ h.lt]
     split
     · rename_i hq
       rw [show 1 - (f - p.base) = 0 by omega]; rfl
     · exact h.b1
 · exact h
theorem PInv.back {d : Nat} {n : Int} {p : Pool} (h : PInv d n p) (hn : 2 ≤ n) : PBack d n (p.give (d + 1)) := by
 have hbit : Bits.getN p.free 1 1 = 0 := by
  refine Bits.eq_of_bits fun i => ?_
  rw [Bits.testBit_getN _ _ _ _ h.lt]
  by_cases hi : i < 1
  · have e : i = 0 := by omega
    subst e
    simp [h.b1]
  · simp [hi]
 have hh : p.holds (d + 1) = true := by
  simp only [Pool.holds, Pool.isin, Bool.and_eq_true, decide_eq_true_eq, h.base, h.many]
  refine ⟨⟨by omega, by omega⟩, ?_⟩
  rw [show d + 1 - d = 1 by omega]; exact hbit
 unfold Pool.give
 rw [if_pos hh]
 refine ⟨h.base, h.many, Bits.setN_lt _ _ _ _, ?_, ?_⟩
 · show (Bits.setN p.free (d + 1 - p.base) 1 1).testBit 0 = false
   rw [Bits.testBit_setN _ _ _ _ _ h.lt, h.base, if_neg ko]
   exact h.b0
 · show (Bits.setN p.free (d + 1 - p.base) 1 1).testBit 1 = true
   rw [Bits.testBit_setN _ _ _ _ _ h.lt, h.base, if_pos ko, show 1 - (d + 1 - d) = 0 by omega]; rfl
/-- The frame that all share keeps its noughts; words stay words. -/
structure ZMem (d sz : Nat) (m : Mem) : Prop where
 lt : ∀ j, m.f j < 18446744073709551616
 z : ∀ i, i < 512 → m.f (d * 512 + i) = 0
 size : m.size = sz
theorem ZMem.clr {d sz : Nat} {m : Mem} (h : ZMem d sz m) (f : Nat) : ZMem d sz (clrM m f) := by
 refine ⟨fun j => ?_, fun i hi => ?_, h.size⟩
 · rw [clr_f]; split
   · decide
   · exact h.lt j
 · rw [clr_f]; split
   · rfl
   · exact h.z i hi
theorem backL_keeps {d sz : Nat} {n : Int} : ∀ (l : List Nat) (m : Mem) (p : Pool), ZMem d sz m → PBack d n p → (∀ f ∈ l, f ≠ d) → ZMem d sz (backL m p l).mem ∧ PBack d n (backL m p l).pool
 | [], m, p, hm, hp, _ => ⟨hm, hp⟩
 | f :: l, m, p, hm, hp, hl => backL_keeps l _ _ (hm.clr f) (hp.give (hl f List.mem_cons_self)) fun g hg => hl g (List.mem_cons_of_mem _ hg)
theorem frames_not {d : Nat} {m : Mem} (h : ∀ j, Wd d (m.f j)) : ∀ (l t : Nat), t ≠ d → ∀ f ∈ framesN m l t, f ≠ d
 | 0, t, ht, f, hf => by
  have : f ∈ [t] := hf
  rw [List.mem_singleton.1 this]; exact ht
 | l + 1, t, ht, f, hf => by
  rcases List.mem_cons.1 (show f ∈ t :: _ from hf) with rfl | hf
  · exact ht
  · obtain ⟨i, hi, hx⟩ := List.mem_flatMap.1 hf
    have hi5 : i < 512 := by simpa using (List.mem_filter.1 hi).1
    unfold D.rowN at hx
    split at hx
    · rename_i hl
      have hlk := links_link hl
      refine frames_not h l _ ?_ f hx
      unfold atN wordN at hlk ⊢
      by_cases hin : placeN t i < m.size
      · rw [if_pos hin, place_div t hi5] at hlk ⊢
        exact ((h _).2 hlk).1
      · rw [if_neg hin, get_zero] at hlk; cases hlk
    · cases hx
theorem top511 : indexN (ofN 133955584) 2 = 511 := by decide +kernel
theorem zero_put : (if Pte.zero.may then Pte.zero.put else 0) = 0 := by decide +kernel
theorem unroot_all {d sz : Nat} {m : Mem} (h : MSp d sz m) (hin : placeN (d + 1) 511 < sz) : (∀ j, Wd d ((withM m ⟨d + 1, 2, Pte.zero⟩ (ofN 133955584) Pte.zero).f j)) ∧ ZMem d sz (withM m ⟨d + 1, 2, Pte.zero⟩ (ofN 133955584) Pte.zero) := by
 have e : ∀ j, (withM m ⟨d + 1, 2, Pte.zero⟩ (ofN 133955584) Pte.zero).f j = if j = special d then 0 else m.f j := fun j => by
  show (storeM m (placeN (d + 1) (indexN (ofN 133955584) 2)) 8 (if Pte.zero.may then Pte.zero.put else 0)).f j = _
  rw [top511, zero_put, store8 kc (h.inv.lt _) kc]
  have : (placeN (d + 1) 511 < m.size ∧ j = (d + 1) * 512 + 511) ↔ j = special d := ⟨fun hh => hh.2, fun hh => ⟨by rw [h.size]; exact hin, hh⟩⟩
  by_cases hj : j = special d
  · rw [if_pos (this.2 hj), if_pos hj]
  · rw [if_neg (fun hh => hj (this.1 hh)), if_neg hj]
 refine ⟨fun j => ?_, fun j => ?_, fun i hi => ?_, (withM_size _ _ _ _).trans h.size⟩
 · rw [e]; split
   · exact wd_zero d
   · rename_i hj; exact h.inv.w j hj
 · rw [e]; split
   · decide
   · exact h.inv.lt j
 · rw [e]; split
   · rfl
   · exact h.inv.z i hi
end D
end Go.Proofs.YtfkmcdkncmapmaaGreatDoor
set_option linter.unusedVariables false
set_option linter.unusedSimpArgs false
set_option maxRecDepth 100000
namespace Go.Proofs.YtfkmcdkncmapmaaGreatDoor
open Go Go.RowKit
namespace D
structure Cd (c : Conf) : Prop where
 d1 : 1 ≤ c.data
 d2 : c.data ≤ 524288
 p1 : 3 ≤ c.pool
 p2 : c.pool ≤ 64
 a : c.asids = 1
 s1 : 0 ≤ c.sets
 s2 : c.sets ≤ 16
theorem Cd.may {c : Conf} (h : Cd c) : mayN c = true := by
 have := h.d1; have := h.d2; have := h.p1; have := h.p2; have := h.a; have := h.s1; have := h.s2
 simp [mayN, within]; omega
theorem Cd.d {c : Conf} (h : Cd c) : c.data.toNat ≤ 524288 := by have := h.d2; omega
theorem Cd.sz {c : Conf} (h : Cd c) : (c.data.toNat + 2) * 4096 ≤ (c.data + c.pool).toNat * 4096 := by have := h.d1; have := h.p1; omega
theorem Cd.in_ {c : Conf} (h : Cd c) : placeN (c.data.toNat + 1) 511 < (c.data + c.pool).toNat * 4096 := by have := h.sz; unfold placeN; omega
theorem Cd.big {c : Conf} (h : Cd c) : (c.data + c.pool).toNat * 4096 ≤ 1099511627776 := by have := h.d2; have := h.p2; omega
/-- The memory of a kernel that has made a space. -/
theorem made_f {d : Nat} {m : Mem} {p : Pool} (hd : d ≤ 524288) (hlt : ∀ j, m.f j < 18446744073709551616) (hf : p.free ≠ 0) (hn : p.next = d + 1) (hin : placeN (d + 1) 511 < m.size) (j : Nat) :
 (withM (freshM m p) ⟨d + 1, 2, Pte.zero⟩ (ofN 133955584) (linkP d)).f j = if j = special d then (linkP d).put else if (d + 1) * 512 ≤ j ∧ j < (d + 1) * 512 + 512 then 0 else m.f j := by
 have e0 : ∀ j, (freshM m p).f j = if (d + 1) * 512 ≤ j ∧ j < (d + 1) * 512 + 512 then 0 else m.f j := fun j => by
  unfold freshM
  rw [if_neg hf, hn, clr_f]
 have hsz : (freshM m p).size = m.size := freshM_size _ _
 show (storeM (freshM m p) (placeN (d + 1) (indexN (ofN 133955584) 2)) 8 (if (linkP d).may then (linkP d).put else 0)).f j = _
 rw [top511, if_pos (linkP_may hd), store8 kc (by rw [e0]; split; decide; exact hlt _) (put_lt _)]
 by_cases hj : j = special d
 · rw [if_pos ⟨by rw [hsz]; exact hin, hj⟩, if_pos hj]
 · rw [if_neg (fun hh => hj hh.2), if_neg hj, e0]
theorem made_size {d : Nat} {m : Mem} {p : Pool} {q : Pte} : (withM (freshM m p) ⟨d + 1, 2, Pte.zero⟩ (ofN 133955584) q).size = m.size := (withM_size _ _ _ _).trans (freshM_size _ _)
theorem made_new {d sz : Nat} {m : Mem} {p : Pool} (hd : d ≤ 524288) (h : ZMem d sz m) (hf : p.free ≠ 0) (hn : p.next = d + 1) (hin : (d + 2) * 4096 ≤ sz) : FMem d (withM (freshM m p) ⟨d + 1, 2, Pte.zero⟩ (ofN 133955584) (linkP d)) := by
 have hi : placeN (d + 1) 511 < m.size := by rw [h.size]; unfold placeN; omega
 have e := made_f hd h.lt hf hn hi
 refine ⟨fun i hi => ?_, ?_, fun i hi => ?_, ?_⟩
 · rw [e, if_neg (by unfold special; omega), if_pos ko]
 · show (withM _ _ _ _).f (special d) = _
   rw [e, if_pos rfl]
 · rw [e, if_neg (by unfold special; omega), if_neg ko]; exact h.z i hi
 · rw [made_size, h.size]; exact hin
theorem made_inv {d sz : Nat} {m : Mem} {p : Pool} (hd : d ≤ 524288) (h : ∀ j, m.f j = 0) (hs : m.size = sz) (hf : p.free ≠ 0) (hn : p.next = d + 1) (hin : (d + 2) * 4096 ≤ sz) : MSp d sz (withM (freshM m p) ⟨d + 1, 2, Pte.zero⟩ (ofN 133955584) (linkP d)) := by
 have hi : placeN (d + 1) 511 < m.size := by rw [hs]; unfold placeN; omega
 have e := made_f hd (fun j => by rw [h]; decide) hf hn hi
 refine ⟨⟨fun j => ?_, fun j hj => ?_, fun i hi => ?_⟩, ?_, ?_⟩
 · rw [e]; split
   · exact put_lt _
   · split
     · decide
     · rw [h]; decide
 · rw [e, if_neg hj]; split
   · exact wd_zero d
   · rw [h]; exact wd_zero d
 · rw [e, if_neg (by unfold special; omega), if_neg ko, h]
 · show (withM _ _ _ _).f (special d) = _
   rw [e, if_pos rfl]
 · rw [made_size, hs]
/-! ### The fence -/
theorem names1 {e : Entry} (h : e.Of1) : Fence.names ⟨false, 0, true, 1⟩ e = e.valid := by
 cases hv : e.valid with
 | false => simp [Fence.names, hv]
 | true =>
  have := h hv
  simp [Fence.names, hv, this.2.2.1, this.2.2.2]
theorem fenced_nov {s : Set} (h : s.Of1) : (Set.fenced ⟨false, 0, true, 1⟩ s).NoV := by
 obtain ⟨h0, h1, h2, h3⟩ := h
 have n0 := names1 h0; have n1 := names1 h1; have n2 := names1 h2; have n3 := names1 h3
 obtain ⟨w0, w1, w2, w3, tr⟩ := s
 simp only at n0 n1 n2 n3
 have e0 : (Set.way ⟨w0, w1, w2, w3, tr⟩ 0) = w0 := rfl
 have e1 : (Set.way ⟨w0, w1, w2, w3, tr⟩ 1) = w1 := rfl
 have e2 : (Set.way ⟨w0, w1, w2, w3, tr⟩ 2) = w2 := rfl
 have e3 : (Set.way ⟨w0, w1, w2, w3, tr⟩ 3) = w3 := rfl
 unfold Set.fenced Set.dropN
 rw [e0, e1, e2, e3, n0, n1, n2, n3]
 cases v0 : w0.valid <;> cases v1 : w1.valid <;> cases v2 : w2.valid <;> cases v3 : w3.valid <;> exact ⟨by first | exact v0 | rfl, by first | exact v1 | rfl, by first | exact v2 | rfl, by first | exact v3 | rfl⟩
theorem all_nov {t : Tlb} (h : t.Of1) : (t.all [⟨false, 0, true, 1⟩]).NoV := fun s hs => by
 have hs : s ∈ t.sets.map (Set.fenced ⟨false, 0, true, 1⟩) := hs
 obtain ⟨o, ho, rfl⟩ := List.mem_map.1 hs
 exact fenced_nov (h.s o ho)
theorem PBack.ne {d : Nat} {n : Int} {p : Pool} (h : PBack d n p) : p.free ≠ 0 := fun e => by
 have := h.b1
 rw [e] at this
 simp at this
theorem PBack.next {d : Nat} {n : Int} {p : Pool} (h : PBack d n p) : p.next = d + 1 := by
 unfold Pool.next
 rw [h.base, ctz_some p.free 1 kc h.b1 (fun j hj => by rw [show j = 0 by omega]; exact h.b0)]
end D
end Go.Proofs.YtfkmcdkncmapmaaGreatDoor
set_option linter.unusedVariables false
set_option linter.unusedSimpArgs false
set_option maxRecDepth 100000
namespace Go.Proofs.YtfkmcdkncmapmaaGreatDoor
open Go Go.RowKit
namespace D
theorem switch_off (k : Kernel) : switchN k (-1) = ⟨k.withS (-1) ⟨0, 0, 0⟩, 0⟩ := by rw [switchN, if_pos rfl]
/-- What the law has in its hands behind the giving up. -/
structure After (c : Conf) (k : Kernel) : Prop where
 mem : ZMem c.data.toNat ((c.data + c.pool).toNat * 4096) k.mem
 pool : PBack c.data.toNat ((c.pool.toNat : Nat) : Int) k.pool
 asids : k.asids = ⟨1, 1, 1⟩
 spaces : k.spaces = [⟨0, 0, false⟩]
 tlb : k.hart.tlb.Of1
 shared : k.shared = c.data.toNat
 fences : k.fences = []
theorem off_sp {c : Conf} {k : Kernel} (h : RInv c k) : ((k.withS (-1) ⟨0, 0, 0⟩).sp 0) = ⟨c.data.toNat + 1, 1, true⟩ := by
 show ((k.spaces[(0 : Int).toNat]?).getD Space.zero) = _
 rw [h.spaces]; rfl
theorem off_lives {c : Conf} {k : Kernel} (h : RInv c k) : (k.withS (-1) ⟨0, 0, 0⟩).lives 0 = true := by
 unfold Kernel.lives
 rw [off_sp h]
 show (decide ((0 : Int) ≤ 0) && (decide ((0 : Int) < (k.spaces.length : Int)) && true)) = true
 rw [h.spaces]; rfl
theorem destroy_is {c : Conf} {k : Kernel} (h : RInv c k) : destroyN (switchN k (-1)).k 0 = ⟨(k.withS (-1) ⟨0, 0, 0⟩).destroyed 0 ⟨c.data.toNat + 1, 1, true⟩, 0⟩ := by
 rw [switch_off, destroyN]
 show (if (k.withS (-1) ⟨0, 0, 0⟩).lives 0 = false then _ else if (0 : Int) = -1 then _ else _) = _
 rw [off_lives h, if_neg kc, if_neg kc, off_sp h]
 rfl
theorem destroy_after {c : Conf} {k : Kernel} (hc : Cd c) (h : RInv c k) : After c (destroyN (switchN k (-1)).k 0).k ∧ (destroyN (switchN k (-1)).k 0).err = 0 := by
 rw [destroy_is h]
 refine ⟨?_, rfl⟩
 have hu := unroot_all h.mem hc.in_
 have hn : (2 : Int) ≤ ((c.pool.toNat : Nat) : Int) := by have := hc.p1; omega
 have hb := h.pool.back hn
 have hk := backL_keeps ((framesN (withM k.mem ⟨c.data.toNat + 1, 2, Pte.zero⟩ (ofN 133955584) Pte.zero) 2 (c.data.toNat + 1)).drop 1) _ _ (hu.2.clr (c.data.toNat + 1)) hb (fun f hf => frames_not hu.1 2 (c.data.toNat + 1) ko f (List.mem_of_mem_drop hf))
 have e : ∀ (m : Mem) (p : Pool) (l : Nat) (t : Nat), backL m p (framesN m l t) = backL (clrM m t) (p.give t) ((framesN m l t).drop 1) := fun m p l t => by rw [framesN_eq]; rfl
 have em : ((k.withS (-1) ⟨0, 0, 0⟩).freed ⟨c.data.toNat + 1, 1, true⟩).mem = (backL (withM k.mem ⟨c.data.toNat + 1, 2, Pte.zero⟩ (ofN 133955584) Pte.zero) k.pool (framesN (withM k.mem ⟨c.data.toNat + 1, 2, Pte.zero⟩ (ofN 133955584) Pte.zero) 2 (c.data.toNat + 1))).mem := rfl
 have ep : ((k.withS (-1) ⟨0, 0, 0⟩).freed ⟨c.data.toNat + 1, 1, true⟩).pool = (backL (withM k.mem ⟨c.data.toNat + 1, 2, Pte.zero⟩ (ofN 133955584) Pte.zero) k.pool (framesN (withM k.mem ⟨c.data.toNat + 1, 2, Pte.zero⟩ (ofN 133955584) Pte.zero) 2 (c.data.toNat + 1))).pool := rfl
 refine ⟨?_, ?_, ?_, ?_, h.tlb, h.shared, h.fences⟩
 · show ZMem _ _ ((k.withS (-1) ⟨0, 0, 0⟩).freed ⟨c.data.toNat + 1, 1, true⟩).mem
   rw [em, e]; exact hk.1
 · show PBack _ _ ((k.withS (-1) ⟨0, 0, 0⟩).freed ⟨c.data.toNat + 1, 1, true⟩).pool
   rw [ep, e]; exact hk.2
 · show k.asids.give 1 = _
   rw [h.asids]
   unfold Asids.give
   rw [if_neg (by decide +kernel)]
   exact congrArg (fun x => (⟨1, x, 1⟩ : Asids)) (by decide +kernel)
 · show k.spaces.set 0 ⟨0, 0, false⟩ = _
   rw [h.spaces]; rfl
/-- The last kernel. -/
structure Last (c : Conf) (k : Kernel) : Prop where
 mem : FMem c.data.toNat k.mem
 size : k.mem.size = (c.data + c.pool).toNat * 4096
 tlb : k.hart.tlb.NoV
 len : k.hart.tlb.sets.length ≤ 16
 satp : k.hart.satp = ⟨8, 1, c.data.toNat + 1⟩
 now : k.now = 1
 spaces : k.spaces = [⟨0, 0, false⟩, ⟨c.data.toNat + 1, 1, true⟩]
theorem create_is {c : Conf} {k : Kernel} (hc : Cd c) (h : After c k) : createN k = ⟨(⟨k.conf, withM (freshM k.mem k.pool) ⟨c.data.toNat + 1, 2, Pte.zero⟩ (ofN 133955584) (linkP c.data.toNat), k.hart, k.pool.take, k.asids.take, [⟨0, 0, false⟩, ⟨c.data.toNat + 1, 1, true⟩], k.now, k.shared, k.fences⟩ : Kernel).fence [⟨false, 0, true, 1⟩], 1, 0⟩ := by
 have hn : k.newRoot = c.data.toNat + 1 := by unfold Kernel.newRoot; rw [if_neg h.pool.ne, h.pool.next]
 have hm : k.newNum = 1 := by unfold Kernel.newNum; rw [h.asids]; decide +kernel
 have ho : k.newOwned = true := by unfold Kernel.newOwned; rw [h.asids]; decide +kernel
 have hmade : k.made = ⟨k.conf, withM (freshM k.mem k.pool) ⟨c.data.toNat + 1, 2, Pte.zero⟩ (ofN 133955584) (linkP c.data.toNat), k.hart, k.pool.take, k.asids.take, [⟨0, 0, false⟩, ⟨c.data.toNat + 1, 1, true⟩], k.now, k.shared, k.fences⟩ := by
  unfold Kernel.made
  rw [hn, hm, h.shared, h.spaces]
  rfl
 rw [createN, if_neg (by rw [h.spaces]; decide), if_neg (by rw [h.asids]; decide), if_neg h.pool.ne, if_pos ho, hmade, hm, h.spaces]
 rfl
theorem lives1 {k : Kernel} {a : Space} {r n : Nat} (h : k.spaces = [a, ⟨r, n, true⟩]) : k.lives 1 = true := by
 unfold Kernel.lives Kernel.sp
 rw [h]
 rfl
theorem last_is {c : Conf} {k : Kernel} (hc : Cd c) (h : After c k) : (createN k).err = 0 ∧ (createN k).id = 1 ∧ (switchN (createN k).k 1).err = 0 ∧ Last c (switchN (createN k).k 1).k := by
 rw [create_is hc h]
 refine ⟨rfl, rfl, ?_⟩
 rw [switchN, if_neg kc, if_neg (by rw [lives1 rfl]; decide)]
 refine ⟨rfl, made_new hc.d h.mem h.pool.ne h.pool.next hc.sz, made_size.trans h.mem.size, all_nov h.tlb, ?_, rfl, rfl, rfl⟩
 show (k.hart.tlb.sets.map _).length ≤ 16
 rw [List.length_map]; exact h.tlb.n
end D
end Go.Proofs.YtfkmcdkncmapmaaGreatDoor
