/- Of whatever number, size and bytes, the program's Put, Low and Get answer what the reference answers, and Size says the same; no condition. -/
import Derived.Test.YthfmhcbeodjffaaPBytesPutsx2
import Derived.Test.YthfmhcbeodjffaaPBytesPutsR
import Derived.Test.YthfmhcbeodjffaaSized
set_option linter.unusedVariables false
set_option linter.unusedSimpArgs false
namespace Go.Proofs.Ythfmhcbeodjffaa.Pure
open Go.RowKit Go.Proofs.Ythfmhcbeodjffaa.PBytesPuts Go.Proofs.YthfmhcbeodjffaaW.PrintWords Go.Proofs.YthfmhcbeodjffaaW.PrintLast Go.Proofs.Ythfmhcbeodjffaa.Bits

theorem BytesPuts : atlaslaw02_BytesPuts.Pure := by
  intro a0 a1 l2 a3 h0 h1 h2 h3 h4 h5
  obtain ⟨v, rfl, hv⟩ := u64_of a0 h0
  obtain ⟨b, rfl, hb⟩ := nats_of l2 h4
  obtain ⟨w0, w1⟩ := u8_of a1 h1
  obtain ⟨s, hs, hp⟩ := pick_f a1 w0 w1
  have hs8 : s ≤ 8 := by omega
  refine ⟨201, ?_⟩
  have ha := awake_f 200 (by omega)
  unfold atlaslaw02_BytesPuts.f
  rw [awake_f 201 (by omega)]
  simp only [Option.bind_some, if_true, atlaslaw02_BytesPuts.j0]
  by_cases hl : ((up b).length : Int) > 100
  · rw [decide_eq_true hl, if_pos rfl, ha]; rfl
  · rw [decide_eq_false hl, if_neg (by decide), hp]
    simp only [Option.bind_some]
    rw [put_f v s 200 hv hs8 (by omega), rput_f v s 200 hv hs8 (by omega), low_f v s hv hs8, rlow_f v s 200 hv hs8 (by omega), getb_f b hb 200 (by omega), rget_f b hb 200 (by omega), size_f, rsize_f]
    simp
end Go.Proofs.Ythfmhcbeodjffaa.Pure
