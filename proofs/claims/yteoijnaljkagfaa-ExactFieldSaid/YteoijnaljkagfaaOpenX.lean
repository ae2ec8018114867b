/- How places and spans among the arguments of a statement are opened. -/
import Derived.Test.YteoijnaljkagfaaOpen
import Derived.Lib.SmallJoins
namespace Go.Proofs.Yteoijnaljkagfaa
open Go.ChangeShapes Go.WideShapes Go.ChangeAt Go.RowKit Go.Joins

/-- Two integers. -/
def Two64 (v : Value) (f : Int × Int) : Prop := v = .agg #[.int .i64 f.1, .int .i64 f.2] ∧ (-9223372036854775808 ≤ f.1 ∧ f.1 ≤ 9223372036854775807) ∧ (-9223372036854775808 ≤ f.2 ∧ f.2 ≤ 9223372036854775807)
set_option maxRecDepth 100000 in
theorem xy_open {W : World} {H : Type} {enc : TypeId × Value → H} {v : Value} {d : DataW H} {p : List MemPlace} {b base : Nat} {sp : Nat → Bool} {hd : Bool}
    (hv : Value.okWide Try.prog W .any base 23 v) (h : DataW.Trod enc Try.prog W b sp hd 23 v d p) : ∃ f, Two64 v f := by
  obtain ⟨c0, c1, y0, y1, m, rfl, rfl, rfl, h0, h1⟩ := open_agg2 Try.underlying23 (by kernel_rfl) (by kernel_rfl) hv h
  obtain ⟨s, e0, _, w0⟩ := DataW.trod_int Try.underlying3 h0
  obtain ⟨q, e1, _, w1⟩ := DataW.trod_int Try.underlying3 h1
  simp at e0 e1
  subst e0 e1
  exact ⟨⟨s, q⟩, rfl, i64_bounds w0, i64_bounds w1⟩
set_option maxRecDepth 100000 in
theorem span_open {W : World} {H : Type} {enc : TypeId × Value → H} {v : Value} {d : DataW H} {p : List MemPlace} {b base : Nat} {sp : Nat → Bool} {hd : Bool}
    (hv : Value.okWide Try.prog W .any base 62 v) (h : DataW.Trod enc Try.prog W b sp hd 62 v d p) : ∃ f, Two64 v f := by
  obtain ⟨c0, c1, y0, y1, m, rfl, rfl, rfl, h0, h1⟩ := open_agg2 Try.underlying62 (by kernel_rfl) (by kernel_rfl) hv h
  obtain ⟨s, e0, _, w0⟩ := DataW.trod_int Try.underlying3 h0
  obtain ⟨q, e1, _, w1⟩ := DataW.trod_int Try.underlying3 h1
  simp at e0 e1
  subst e0 e1
  exact ⟨⟨s, q⟩, rfl, i64_bounds w0, i64_bounds w1⟩
end Go.Proofs.Yteoijnaljkagfaa
