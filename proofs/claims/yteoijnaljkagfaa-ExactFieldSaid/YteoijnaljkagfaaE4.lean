/- Walks: cross and Turn of package exact (program). -/
import Derived.Test.YteoijnaljkagfaaE3
namespace Go.Proofs.Yteoijnaljkagfaa
open Go.RowKit

/-- Twice the directed area of a triangle. -/
def crossI (a b c : Int × Int) : Int := (b.1 - a.1) * (c.2 - a.2) - (b.2 - a.2) * (c.1 - a.1)
/-- A place as a value. -/
def xyV (p : Int × Int) : Value := .agg #[.int .i64 p.1, .int .i64 p.2]
theorem mul_in {x y B C : Int} (hx : -B ≤ x ∧ x ≤ B) (hy : -C ≤ y ∧ y ≤ C) : -(B * C) ≤ x * y ∧ x * y ≤ B * C := by
  have hB : 0 ≤ B := by omega
  have h1 : (x * y).natAbs ≤ (B * C).natAbs := by
    rw [Int.natAbs_mul, Int.natAbs_mul]
    exact Nat.mul_le_mul (by omega) (by omega)
  have h2 : 0 ≤ B * C := Int.mul_nonneg hB (by omega)
  omega
theorem diff_in {x y : Int} (hx : -268435456 ≤ x ∧ x ≤ 268435456) (hy : -268435456 ≤ y ∧ y ≤ 268435456) : -536870912 ≤ x - y ∧ x - y ≤ 536870912 := by omega
theorem okP_in {x y : Int} (h : okP (x, y) = true) : (-268435456 ≤ x ∧ x ≤ 268435456) ∧ (-268435456 ≤ y ∧ y ≤ 268435456) := by
  simp only [okP, decide_eq_true_eq] at h; omega

set_option maxHeartbeats 1000000 in
theorem cross_any (a1 a2 b1 b2 c1 c2 : Int) (w : World) (ha : okP (a1, a2) = true) (hb : okP (b1, b2) = true) (hc : okP (c1, c2) = true) :
    Calls Try.prog 74 #[.agg #[.int .i64 a1, .int .i64 a2], .agg #[.int .i64 b1, .int .i64 b2], .agg #[.int .i64 c1, .int .i64 c2]] w fun e w' => e = .returned (.int .i64 (crossI (a1, a2) (b1, b2) (c1, c2))) ∧ Ext w w' := by
  obtain ⟨ha1, ha2⟩ := okP_in ha
  obtain ⟨hb1, hb2⟩ := okP_in hb
  obtain ⟨hc1, hc2⟩ := okP_in hc
  obtain ⟨p1, p2⟩ := mul_in (diff_in hb1 ha1) (diff_in hc2 ha2)
  obtain ⟨q1, q2⟩ := mul_in (diff_in hb2 ha2) (diff_in hc1 ha1)
  obtain ⟨d1, d1'⟩ := diff_in hb1 ha1
  obtain ⟨d2, d2'⟩ := diff_in hc2 ha2
  obtain ⟨d3, d3'⟩ := diff_in hb2 ha2
  obtain ⟨d4, d4'⟩ := diff_in hc1 ha1
  rw [show (536870912 : Int) * 536870912 = 288230376151711744 by decide] at p1 p2 q1 q2
  clear ha hb hc ha1 ha2 hb1 hb2 hc1 hc2
  go_enter Try.func74, Try.ntmps74
  go_wp2
  go_ret
  exact ⟨rfl, (((Ext.refl w).alloc _).alloc _).alloc _⟩
end Go.Proofs.Yteoijnaljkagfaa
