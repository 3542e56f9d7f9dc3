/- PoolTakes: the walk of whatever arguments. -/
import Derived.Test.YtojklokbdmelhaaDoorWPoolTakes
import Derived.OpenShut
set_option linter.unusedVariables false
set_option linter.unusedSimpArgs false
namespace Go.Proofs.YtojklokbdmelhaaDoor.SPoolTakes
open Go.RowKit Go.Proofs.YtojklokbdmelhaaDoorW.PrintWords Go.Proofs.YtojklokbdmelhaaDoor.Bits Go.Proofs.YtojklokbdmelhaaDoor.SPoolAll

set_option maxRecDepth 100000 in
theorem far_b (a : Option Addr) (len cap : Nat) (b many : Int) (w : World) (hl : Ld w) (hb : 268435456 < b) :
    Calls Tryd.prog 5 #[.int .u32 b, .int .u8 many, .slice a len cap] w fun e w' => e = .returned (.bool true) ∧ Below w.heap.size w w' := by
  have HL := Lib.hid hl
  clear hl
  go_enter Tryd.func5, Tryd.ntmps5
  go_wp2_with fail
  refine (atlaslaw04_awake.calls true _ HL.out rfl).mono ?_
  rintro e w1 ⟨rfl, hb1⟩
  have hid1 := Lib.hid hb1
  clear hb1
  go_wp2_with fail
  refine (atlaslaw04_awake.calls true _ (HL.out.below hid1.out) rfl).mono ?_
  rintro e w2 ⟨rfl, hb1⟩
  have hid2 := Lib.hid (below_step hid1.out hb1)
  clear hb1 hid1
  go_wp2_with fail
  go_ret
  exact ⟨rfl, hid2.out⟩
set_option maxRecDepth 100000 in
theorem far_len (a : Option Addr) (len cap : Nat) (b many : Int) (w : World) (hl : Ld w) (hb : b ≤ 268435456) (hlen : 300 < len) :
    Calls Tryd.prog 5 #[.int .u32 b, .int .u8 many, .slice a len cap] w fun e w' => e = .returned (.bool true) ∧ Below w.heap.size w w' := by
  have HL := Lib.hid hl
  clear hl
  have hlen' : (300 : Int) < (len : Int) := by omega
  go_enter Tryd.func5, Tryd.ntmps5
  go_wp2_with fail
  refine (atlaslaw04_awake.calls true _ HL.out rfl).mono ?_
  rintro e w1 ⟨rfl, hb1⟩
  have hid1 := Lib.hid hb1
  clear hb1
  go_wp2_with fail
  refine (atlaslaw04_awake.calls true _ (HL.out.below hid1.out) rfl).mono ?_
  rintro e w2 ⟨rfl, hb1⟩
  have hid2 := Lib.hid (below_step hid1.out hb1)
  clear hb1 hid1
  go_wp2_with fail
  go_ret
  exact ⟨rfl, hid2.out⟩
/-- A slice of bytes that came in. -/
def IsRow (w : World) (a : Option Addr) (len cap : Nat) (zs : List Int) : Prop :=
  (a = none ∧ len = 0 ∧ cap = 0 ∧ zs = []) ∨
  ∃ x, a = some x ∧ len ≤ cap ∧ cap ≤ maxLen ∧ zs.length = cap ∧ (∀ i, i < zs.length → w.cell? (x.add i) = some (.int .u8 (zs.getD i 0))) ∧ ∀ n ∈ zs, (Lit.int .u8 n).wf = true
theorem calls (a : Option Addr) (len cap : Nat) (b many : Int) (zs : List Int) (w : World) (hl : Ld w) (h0 : (Lit.int .u32 b).wf = true) (h1 : (Lit.int .u8 many).wf = true) (hr : IsRow w a len cap zs) :
    Calls Tryd.prog 5 #[.int .u32 b, .int .u8 many, .slice a len cap] w fun e w' => e = .returned (.bool true) ∧ Below w.heap.size w w' := by
  obtain ⟨b0, b1⟩ := u32_of b h0
  obtain ⟨m0, m1⟩ := u8_of many h1
  by_cases hb : 268435456 < b
  · exact far_b a len cap b many w hl hb
  by_cases hlen : 300 < len
  · exact far_len a len cap b many w hl (by omega) hlen
  obtain ⟨b, rfl⟩ := Int.eq_ofNat_of_zero_le b0
  obtain ⟨n, hn⟩ : ∃ n : Nat, many % 65 = (n : Int) := ⟨(many % 65).toNat, by omega⟩
  by_cases hz : len = 0
  · exact zero len cap n b many w hl (by omega) m0 m1 hn (by omega) a hz
  · rcases hr with ⟨_, h, _⟩ | ⟨x, rfl, hlc, _, hzs, hc, hw⟩
    · exact absurd h hz
    · obtain ⟨bl, off, rfl, hc'⟩ := ints_at hc (by omega)
      have h00 := hc' 0 (by omega)
      refine pos bl off len cap n b many w hl (by omega) m0 m1 hn (by omega) (by simpa using World.block_lt_of_cell? w _ h00) fun k hk => ?_
      have hk' : k < zs.length := by omega
      refine ⟨zs.getD k 0, ?_, ?_, hc' k hk'⟩
      · exact (u8_of _ (hw _ (by rw [List.getD_eq_getElem?_getD, List.getElem?_eq_getElem hk']; exact List.getElem_mem _))).1
      · exact (u8_of _ (hw _ (by rw [List.getD_eq_getElem?_getD, List.getElem?_eq_getElem hk']; exact List.getElem_mem _))).2
end Go.Proofs.YtojklokbdmelhaaDoor.SPoolTakes
