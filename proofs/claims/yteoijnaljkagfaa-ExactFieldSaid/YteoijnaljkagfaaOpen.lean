/- How the arguments of a statement are opened: a slice of integers that came in reads as a list ('Ints'). -/
import Derived.Test.YteoijnaljkagfaaRows
import Derived.Test.YteoijnaljkagfaaBase
namespace Go.Proofs.Yteoijnaljkagfaa
open Go.ChangeShapes Go.WideShapes Go.ChangeAt Go.RowKit

theorem own : ownKnob Try.prog.godebug = none := by kernel_rfl
theorem laidOut : laidOutB Try.prog = true := by kernel_rfl

theorem ints_trod {P : Program} {W : World} {H : Type} {enc : TypeId × Value → H} {t e : TypeId} {k : IntKind} {a : Option Addr} {len cap fuel : Nat} {y : DataW H × List MemPlace} {b : Nat} {sp : Nat → Bool} {hd : Bool}
    (ht : P.underlying t = some (.slice e)) (he : P.underlying e = some (.int k)) (hc : P.cellsOf e = 1) (hf : DataW.trod enc P W b sp hd fuel t [.slice a len cap] = some y) :
    ∃ xs, Ints k W a len xs ∧ len ≤ cap ∧ cap ≤ 9223372036854775807 := by
  rcases open_ints ht he hc hf with ⟨hcs, _⟩ | ⟨x, l, c, zs, hcs, _, hl, hm, hz, _, hcell, hwz⟩
  · simp at hcs
    obtain ⟨rfl, rfl, rfl⟩ := hcs
    exact ⟨[], Ints.nil, by omega, by omega⟩
  · simp at hcs
    obtain ⟨rfl, rfl, rfl⟩ := hcs
    have hzl : len ≤ zs.length := by rw [hz]; split <;> omega
    refine ⟨zs.take len, ⟨by rw [List.length_take]; omega, fun x hx => hwz x (List.mem_of_mem_take hx), ?_⟩, hl, by unfold maxLen at hm; omega⟩
    intro hne
    have hpos : 0 < zs.length := by
      rcases zs with _ | ⟨z, zs⟩
      · simp at hne
      · simp
    have h0 := hcell 0 hpos
    obtain ⟨bb, off, spot⟩ := x
    have hspot : spot = none := by simpa [Addr.add] using World.cell?_spot h0
    subst hspot
    refine ⟨bb, off, rfl, fun j v hv => ?_⟩
    rw [List.getElem?_map, List.getElem?_take] at hv
    split at hv
    · have hj : j < zs.length := by omega
      have := hcell j hj
      rw [Addr.add_lit] at this
      rw [this]
      rw [List.getElem?_eq_getElem hj] at hv
      simp at hv
      simp [List.getD, List.getElem?_eq_getElem hj, hv]
    · simp at hv

theorem ints_open {P : Program} {W : World} {H : Type} {enc : TypeId × Value → H} {t e : TypeId} {k : IntKind} {a : Option Addr} {len cap : Nat} {d : DataW H} {p : List MemPlace} {b : Nat} {sp : Nat → Bool} {hd : Bool}
    (ht : P.underlying t = some (.slice e)) (he : P.underlying e = some (.int k)) (hc : P.cellsOf e = 1) (h : DataW.Trod enc P W b sp hd t (.slice a len cap) d p) :
    ∃ xs, Ints k W a len xs ∧ len ≤ cap ∧ cap ≤ 9223372036854775807 := by
  obtain ⟨fuel, hf⟩ := h
  exact ints_trod ht he hc hf
end Go.Proofs.Yteoijnaljkagfaa
