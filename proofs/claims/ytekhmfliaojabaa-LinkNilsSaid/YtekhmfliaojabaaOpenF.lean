/- How a frame among the arguments of a statement is opened. -/
import Derived.Test.YtekhmfliaojabaaOpen
import Derived.Test.YtekhmfliaojabaaFrame
import Derived.Lib.SmallJoins
namespace Go.Proofs.Ytekhmfliaojabaa
open Go.ChangeShapes Go.WideShapes Go.ChangeAt Go.RowKit Go.Joins

theorem frame_size : Try.prog.cellsOf 38 = 3 := by kernel_rfl

set_option maxRecDepth 100000 in
theorem frame_open {W : World} {H : Type} {enc : TypeId × Value → H} {v : Value} {d : DataW H} {p : List MemPlace} {b base : Nat} {sp : Nat → Bool} {hd : Bool}
    (hv : Value.okWide Try.prog W .any base 38 v) (h : DataW.Trod enc Try.prog W b sp hd 38 v d p) : ∃ f, FrV W v f := by
  obtain ⟨c0, c1, c2, y0, y1, y2, m, rfl, rfl, rfl, h0, h1, h2⟩ := open_agg3 Try.underlying38 (by kernel_rfl) frame_size hv h
  obtain ⟨s, e0, _, w0⟩ := DataW.trod_int Try.underlying3 h0
  obtain ⟨q, e1, _, w1⟩ := DataW.trod_int Try.underlying3 h1
  obtain ⟨A, n, c, e2⟩ := slice_form Try.underlying22 h2
  simp at e0 e1 e2
  subst e0 e1 e2
  obtain ⟨xs, hI, hnc, hcm⟩ := ints_trod Try.underlying22 Try.underlying5 (by kernel_rfl) h2
  exact ⟨⟨s, q, xs⟩, A, n, c, rfl, hI, hnc, hcm, i64_bounds w0, i64_bounds w1⟩
end Go.Proofs.Ytekhmfliaojabaa
