/- Lemmas of the proof that follows (Chains, part 3): walks of functions by contract, and plain lemmas. Conditions: none. -/
import Derived.Test.YtagcgldhhdecjaaChainsB
namespace Go.Proofs.Ytagcgldhhdecjaa

/-- The echoes that are handed out: how each lies among its neighbours. -/
theorem chain_front {l : List Int} {d : Det} (hd : 1 ≤ d.drop) {i : Nat} {x : Ech} (hx : ((allE l d).take 15)[i]? = some x) :
    ∃ f p t, EGood l (medV l + d.level) x f p t ∧ ((f = 0 ∨ l.getD (f - 1) 0 < medV l + d.level) ∨ (0 < i ∧ ∃ e', ((allE l d).take 15)[i - 1]? = some e' ∧ e'.til = (f : Int))) ∧
      ((t = l.length ∨ l.getD t 0 < medV l + d.level) ∨ ((i + 1 < ((allE l d).take 15).length → ∃ e', ((allE l d).take 15)[i + 1]? = some e' ∧ e'.frm = (t : Int)) ∧ (i + 1 = ((allE l d).take 15).length → ((allE l d).take 15).length = 15))) := by
  have hi : i < 15 := by
    have := (List.getElem?_eq_some_iff.1 hx).1
    rw [List.length_take] at this
    omega
  have hx' : (allE l d)[i]? = some x := by rwa [List.getElem?_take_of_lt hi] at hx
  obtain ⟨f, p, t, h1, h2, h3⟩ := wellAt_all hd i x hx'
  refine ⟨f, p, t, h1, ?_, ?_⟩
  · rcases h2 with h2 | ⟨e', q0, q1, q2⟩
    · exact .inl h2
    · exact .inr ⟨q0, e', by rw [List.getElem?_take_of_lt (by omega)]; exact q1, q2⟩
  · rcases h3 with h3 | ⟨e', q1, q2⟩
    · exact .inl h3
    · refine .inr ⟨fun hl => ⟨e', ?_, q2⟩, fun hl => ?_⟩
      · rw [List.length_take] at hl
        rw [List.getElem?_take_of_lt (by omega)]
        exact q1
      · have := (List.getElem?_eq_some_iff.1 q1).1
        rw [List.length_take] at hl ⊢
        omega
end Go.Proofs.Ytagcgldhhdecjaa
