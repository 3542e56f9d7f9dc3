/- The statements' 'awake' of the package cause, walked: it says true. -/
import Derived.Test.YtichkddkmoljcaaDoorCauseN
import Derived.Test.YtichkddkmoljcaaDoorWEqStruct
set_option linter.unusedVariables false
set_option linter.unusedSimpArgs false
namespace Go.Proofs.YtichkddkmoljcaaDoor
open Go.RowKit Go.Proofs.YtichkddkmoljcaaDoorW.PrintWords
theorem eqFault (d : Nat) (w : World) (x0 y0 : Bool) (x1 y1 : Int) (x2 y2 : Int) :
    (Op.equalIn (d + 2) 25 (.agg #[.bool x0, .int .i64 x1, .int .u64 x2]) (.agg #[.bool y0, .int .i64 y1, .int .u64 y2])).run Tryd.prog w = .ok (x0 == y0 && (x1 == y1 && (x2 == y2))) w := by
  refine eqA_of Tryd.underlying25 (by kernel_rfl) ?_
  refine eqf_cons (by rfl) (by go_simp; rfl) (by go_simp; rfl) (by go_simp) ?_
  refine eqf_cons (by rfl) (by go_simp; rfl) (by go_simp; rfl) (by go_simp) ?_
  exact eqf_last (by rfl) (by go_simp; rfl) (by go_simp; rfl) (by go_simp)
theorem fld1 (b : Bool) (c a : Int) (w : World) : (Instr.field 25 (.agg #[.bool b, .int .i64 c, .int .u64 a]) 1).run Tryd.prog w = .ok (.int .i64 c) w := by kernel_rfl
attribute [local go_sem high] eqFault fld1
def Bools (w : World) (b : Bool) (e : Ending) (w' : World) : Prop := e = .returned (.bool b) ∧ Below w.heap.size w w'

set_option maxRecDepth 100000 in
theorem awake_calls (w : World) (h : Ld w) : Calls Tryd.prog 7 #[] w (Bools w true) := by
  go_enter Tryd.func7, Tryd.ntmps7
  go_wp2_with fail
  refine (sort_13 _ h).mono ?_
  rintro e w1 ⟨rfl, hb⟩
  have h1 := h.below hb
  have hid := Lib.hid hb
  clear hb h
  go_wp2_with fail
  refine (page_calls 2 5 _ h1 (by omega)).mono ?_
  rintro e w2 ⟨rfl, hb⟩
  have h2 := h1.below hb
  have hid2 := Lib.hid (below_then hid.out hid.out.size hb)
  clear hb h1 hid
  rw [show causeOf 2 2 = 15 from rfl]
  go_wp2_with fail
  refine (name_13 _ h2).mono ?_
  rintro e w3 ⟨rfl, hb⟩
  have h3 := h2.below hb
  have hid3 := Lib.hid (below_then hid2.out hid2.out.size hb)
  clear hb h2 hid2
  have hs : (sPage ++ (⟨#[32]⟩ : ByteArray) ++ sLoad).toList = [112, 97, 103, 101, 32, 108, 111, 97, 100] := by decide +kernel
  go_wp2_with fail
  clear hs
  refine (name_none 2 _ h3 rfl).mono ?_
  rintro e w4 ⟨rfl, hb⟩
  have h4 := h3.below hb
  have hid4 := Lib.hid (below_then hid3.out hid3.out.size hb)
  clear hb h3 hid3
  go_wp2_with fail
  refine (odd_calls 0 1 _ h4 (by omega)).mono ?_
  rintro e w5 ⟨rfl, hb⟩
  have h5 := h4.below hb
  have hid5 := Lib.hid (below_then hid4.out hid4.out.size hb)
  clear hb h4 hid4
  rw [show causeOf 0 0 = 0 from rfl]
  go_wp2_with fail
  refine (access_calls 1 1 _ h5 (by omega)).mono ?_
  rintro e w6 ⟨rfl, hb⟩
  have hid6 := Lib.hid (below_then hid5.out hid5.out.size hb)
  clear hb h5 hid5
  rw [show causeOf 1 1 = 5 from rfl]
  go_wp2_with fail
  go_ret
  exact ⟨rfl, hid6.out⟩
end Go.Proofs.YtichkddkmoljcaaDoor
