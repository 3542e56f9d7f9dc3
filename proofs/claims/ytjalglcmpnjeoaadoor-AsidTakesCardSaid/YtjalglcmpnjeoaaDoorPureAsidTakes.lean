/- AsidTakes: the walk of whatever arguments. -/
import Derived.Test.YtjalglcmpnjeoaaDoorWAsidTakes
import Derived.OpenShut
set_option linter.unusedVariables false
set_option linter.unusedSimpArgs false
namespace Go.Proofs.YtjalglcmpnjeoaaDoor.SAsidTakes
open Go.RowKit Go.Proofs.YtjalglcmpnjeoaaDoorW.PrintWords Go.Proofs.YtjalglcmpnjeoaaDoor.Bits Go.Proofs.YtjalglcmpnjeoaaDoor.SAsidAll

set_option maxRecDepth 100000 in
theorem far_len (a : Option Addr) (len cap : Nat) (many : Int) (w : World) (hl : Ld w) (hlen : 200 < len) :
    Calls Tryd.prog 4 #[.int .u8 many, .slice a len cap] w fun e w' => e = .returned (.bool true) ∧ Below w.heap.size w w' := by
  have HL := Lib.hid hl
  clear hl
  have hlen' : (200 : Int) < (len : Int) := by omega
  go_enter Tryd.func4, Tryd.ntmps4
  go_wp2_with fail
  refine (atlaslaw18_awake.calls true _ HL.out rfl).mono ?_
  rintro e w1 ⟨rfl, hb1⟩
  have hid1 := Lib.hid hb1
  clear hb1
  go_wp2_with fail
  refine (atlaslaw18_awake.calls true _ (HL.out.below hid1.out) rfl).mono ?_
  rintro e w2 ⟨rfl, hb1⟩
  have hid2 := Lib.hid (below_step hid1.out hb1)
  clear hb1 hid1
  go_wp2_with fail
  go_ret
  exact ⟨rfl, hid2.out⟩
/-- A slice of bytes that came in. -/
def IsRow (w : World) (a : Option Addr) (len cap : Nat) (zs : List Int) : Prop :=
  (a = none ∧ len = 0 ∧ cap = 0 ∧ zs = []) ∨
  ∃ x, a = some x ∧ len ≤ cap ∧ cap ≤ maxLen ∧ zs.length = cap ∧ (∀ i, i < zs.length → w.cell? (x.add i) = some (.int .u8 (zs.getD i 0))) ∧ ∀ n ∈ zs, (Lit.int .u8 n).wf = true
theorem calls (a : Option Addr) (len cap : Nat) (many : Int) (zs : List Int) (w : World) (hl : Ld w) (h1 : (Lit.int .u8 many).wf = true) (hr : IsRow w a len cap zs) :
    Calls Tryd.prog 4 #[.int .u8 many, .slice a len cap] w fun e w' => e = .returned (.bool true) ∧ Below w.heap.size w w' := by
  obtain ⟨m0, m1⟩ := u8_of many h1
  by_cases hlen : 200 < len
  · exact far_len a len cap many w hl hlen
  obtain ⟨n, hn⟩ : ∃ n : Nat, many % 16 = (n : Int) - 1 := ⟨(many % 16).toNat + 1, by omega⟩
  by_cases hz : len = 0
  · exact zero len cap n many w hl m0 m1 (by omega) (by omega) hn (by omega) a hz
  · rcases hr with ⟨_, h, _⟩ | ⟨x, rfl, hlc, _, hzs, hc, hw⟩
    · exact absurd h hz
    · obtain ⟨bl, off, rfl, hc'⟩ := ints_at hc (by omega)
      have h00 := hc' 0 (by omega)
      refine pos bl off len cap n many w hl m0 m1 (by omega) (by omega) hn (by omega) (by simpa using World.block_lt_of_cell? w _ h00) fun k hk => ?_
      have hk' : k < zs.length := by omega
      refine ⟨zs.getD k 0, ?_, ?_, hc' k hk'⟩
      · exact (u8_of _ (hw _ (by rw [List.getD_eq_getElem?_getD, List.getElem?_eq_getElem hk']; exact List.getElem_mem _))).1
      · exact (u8_of _ (hw _ (by rw [List.getD_eq_getElem?_getD, List.getElem?_eq_getElem hk']; exact List.getElem_mem _))).2
end Go.Proofs.YtjalglcmpnjeoaaDoor.SAsidTakes
