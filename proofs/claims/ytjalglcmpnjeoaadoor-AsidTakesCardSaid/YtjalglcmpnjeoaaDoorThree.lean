/- A struct of three whole numbers, by value: opened to its numbers, and shut again. -/
import Derived.Lib.SmallJoins
import Derived.ChangeSame
import Derived.RowKit3
set_option linter.unusedVariables false
namespace Go.Proofs.YtjalglcmpnjeoaaDoor.Three
open Go.ChangeShapes Go.WideShapes Go.ChangeAt Go.RowKit Go.Joins Go.Deep
variable {H : Type} {enc : TypeId × Value → H} {P : Program} {w : World} {base : Nat} {spare : Nat → Bool} {held : Bool}
theorem open3 {r : Reach} {b0 : Nat} {t : TypeId} {f0 f1 f2 : Field} {k0 k1 k2 : IntKind} {v : Value} {d : DataW H} {p : List MemPlace} (hs : P.underlying t = some (.struct #[f0, f1, f2])) (hone : oneCellFields P #[f0, f1, f2] = true) (hC : P.cellsOf t = 3)
    (u0 : P.underlying f0.type = some (.int k0)) (u1 : P.underlying f1.type = some (.int k1)) (u2 : P.underlying f2.type = some (.int k2))
    (hv : Value.okWide P w r b0 t v) (h : DataW.Trod enc P w base spare held t v d p) :
    ∃ a b c : Int, v = .agg #[.int k0 a, .int k1 b, .int k2 c] ∧ d = .agg [.lit (.int k0 a), .lit (.int k1 b), .lit (.int k2 c)] ∧ p = [] ∧ (Lit.int k0 a).wf = true ∧ (Lit.int k1 b).wf = true ∧ (Lit.int k2 c).wf = true := by
  obtain ⟨c0, c1, c2, y0, y1, y2, m, rfl, rfl, rfl, hy0, hy1, hy2⟩ := open_agg3 hs hone hC hv h
  obtain ⟨a, e0, rfl, wa⟩ := DataW.trod_int u0 hy0
  obtain ⟨b, e1, rfl, wb⟩ := DataW.trod_int u1 hy1
  obtain ⟨c, e2, rfl, wc⟩ := DataW.trod_int u2 hy2
  simp at e0 e1 e2
  subst e0 e1 e2
  exact ⟨a, b, c, rfl, rfl, rfl, wa, wb, wc⟩
theorem shut3 {t : TypeId} {f0 f1 f2 : Field} {k0 k1 k2 : IntKind} {a b c : Int} (hs : P.underlying t = some (.struct #[f0, f1, f2])) (hone : oneCellFields P #[f0, f1, f2] = true) (hC : P.cellsOf t = 3)
    (u0 : P.underlying f0.type = some (.int k0)) (u1 : P.underlying f1.type = some (.int k1)) (u2 : P.underlying f2.type = some (.int k2))
    (wa : (Lit.int k0 a).wf = true) (wb : (Lit.int k1 b).wf = true) (wc : (Lit.int k2 c).wf = true) :
    DataW.Trod enc P w base spare held t (.agg #[.int k0 a, .int k1 b, .int k2 c]) (.agg [.lit (.int k0 a), .lit (.int k1 b), .lit (.int k2 c)]) [] :=
  shut_agg3 (y0 := (.lit (.int k0 a), [])) (y1 := (.lit (.int k1 b), [])) (y2 := (.lit (.int k2 c), [])) hs hone hC ⟨1, by simp [DataW.trod, u0, wa]⟩ ⟨1, by simp [DataW.trod, u1, wb]⟩ ⟨1, by simp [DataW.trod, u2, wc]⟩
end Go.Proofs.YtjalglcmpnjeoaaDoor.Three
