/- Plain laws of the plane: Turn and Circle under exchanges of places. -/
import Derived.Test.YteoijnaljkagfaaL7
namespace Go.Proofs.Yteoijnaljkagfaa

theorem sgI_neg (n : Int) : sgI (-n) = -sgI n := by
  unfold sgI
  by_cases h1 : n < 0
  · have : ¬ -n < 0 := by omega
    have h2 : 0 < -n := by omega
    simp [h1, this]; omega
  · by_cases h2 : 0 < n
    · have : -n < 0 := by omega
      simp [h1, h2]
    · have : n = 0 := by omega
      subst this; decide
theorem sgI_in (n : Int) : -1 ≤ sgI n ∧ sgI n ≤ 1 := by
  unfold sgI
  split
  · omega
  · split <;> omega
theorem sgI_zero {n : Int} : sgI n = 0 ↔ n = 0 := by
  unfold sgI
  split
  · omega
  · split <;> omega
section
variable (a1 a2 b1 b2 c1 c2 d1 d2 : Int)
theorem cross_swap : crossI (b1, b2) (a1, a2) (c1, c2) = -crossI (a1, a2) (b1, b2) (c1, c2) := by
  simp only [crossI]; grind
theorem cross_cyc : crossI (b1, b2) (c1, c2) (a1, a2) = crossI (a1, a2) (b1, b2) (c1, c2) := by
  simp only [crossI]; grind
theorem det_cyc : detI (c1, c2) (a1, a2) (b1, b2) (d1, d2) = detI (a1, a2) (b1, b2) (c1, c2) (d1, d2) := by
  simp only [detI]; omega
theorem det_swap : detI (b1, b2) (a1, a2) (c1, c2) (d1, d2) = -detI (a1, a2) (b1, b2) (c1, c2) (d1, d2) := by
  simp only [detI, liftI, crossI]; grind
theorem det_far : detI (b1, b2) (a1, a2) (d1, d2) (c1, c2) = detI (a1, a2) (b1, b2) (c1, c2) (d1, d2) := by
  simp only [detI, liftI, crossI]; grind
theorem det_a : detI (a1, a2) (b1, b2) (c1, c2) (a1, a2) = 0 := by
  simp only [detI, liftI, crossI]; grind
theorem det_b : detI (a1, a2) (b1, b2) (c1, c2) (b1, b2) = 0 := by
  simp only [detI, liftI, crossI]; grind
theorem det_c : detI (a1, a2) (b1, b2) (c1, c2) (c1, c2) = 0 := by
  simp only [detI, liftI, crossI]; grind
end
end Go.Proofs.Yteoijnaljkagfaa
